import Derived.Test.YtcablikikkmfjaaGreatProg
import Derived.Test.YtcablikikkmfjaaGreatMn5
section
/- Layer 4: Build, Parse, Empty. -/
set_option linter.unusedVariables false
set_option linter.unusedSimpArgs false
set_option maxRecDepth 100000
set_option maxHeartbeats 4000000
namespace Go.Proofs.YtcablikikkmfjaaGreat
open Go.Vc Go.RowKit
theorem THd3aa {P : Prop} (h : P := by simp only [List.length_take, List.length_drop]; omega) : P := h
theorem THd3ab {P : Prop} (h : P := by simp only [List.length_take]; have hq9 : bs.length = 53 := hn; omega) : P := h
theorem THd3ac {P : Prop} (h : P := by simp only [iL, List.map_append, List.map_cons, List.map_nil, List.append_assoc, List.cons_append, List.nil_append, List.append_nil]) : P := h
theorem THd3ad {P : Prop} (h : P := by intro i hi; first | exact hi | exact ⟨_, by assumption, hi⟩ | (have hi9 : i = b := hi; (first | show _ ∨ _ | show _ = _); omega)) : P := h

theorem grow53 (w : World) :
  CV Tryz.prog 121 #[.slice none 0 0, I6 53] w (fun x w1 => ∃ A' c', x = .slice A' 0 c' ∧ Rw w1 w.heap.size 5 A' 0 c' (iL .u8 []) ∧ Step No w w1) := by
 have hS : Step No w w := Step.refl _ _
 refine VCe Tryz.func121 (Vrp (Vs (Vrp (Vf (VC_skip (Vn (Vs (Vrp (Vrp (Vt (Vr (Vp 5 ?_))))))))))))
 refine VL_appMake (d := 22) (e := 5) (bytes := 1) (by kernel_rfl) (by kernel_rfl) (by kernel_rfl) 53 rfl (by decide) (by decide) (by decide) ?_
 intro g cap cs w1 ho hcs hkc hcm hgw hs
 replace hS := Step.trans hS hs
 refine Vp 8 (VL_slice (d := 25) (b := g) (o := 0) (sz := 1) (len := 53) (cap := cap) (lo := none) (hi := some 0) (mx := none) (by kernel_rfl) (by kernel_rfl) (fun h => by first | exact absurd rfl h | exact (fun h => by cases h)) 0 0 cap rfl rfl rfl (by omega) (by omega) (by omega) 0 (by split <;> omega) 0 (by omega) cap (by omega) (Ve (Vn (Vrp (VC_ret (Vr1 (.slice (some ⟨g, 0, none⟩) 0 cap) ?_))))))
 exact ⟨_, _, rfl, Rw.of_own ho (by omega) hcs (Nat.zero_le _) hcm (by simp [iL]), hS⟩

theorem concat2 (b : Nat) (P1 P2 : Option Addr) (k1 k2 B1 B2 : Nat) (xs ys : List Int) (w : World) (hx : xs.length = 5) (hy : ys.length = 48) (hA : Sl w B1 P1 (iL .u8 xs)) (hB : Sl w B2 P2 (iL .u8 ys)) (ho : Own w b #[.slice P1 5 k1, .slice P2 48 k2] 26) (hB1 : B1 ≤ w.heap.size) (hB2 : B2 ≤ w.heap.size) :
  CV Tryz.prog 65 #[.slice (some ⟨b, 0, none⟩) 2 2] w (fun x w1 => ∃ A' c', x = .slice A' 53 c' ∧ Rw w1 w.heap.size 5 A' 53 c' (iL .u8 (xs ++ ys)) ∧ Step No w w1) := by
 have hS : Step No w w := Step.refl _ _
 refine VCe Tryz.func65 (Vrp (Vrp (Vs (Vrp (VC_block (VC_rounds (VCL_round (Vrp (Vs (Vt (VC_skip (Vn ?_))))))))))))
 refine Vs (VC_block (Vs (Vr (VL_index (d := 13) (b := b) (o := 0) (len := 2) (sz := 1) (m := 0) (by kernel_rfl) (by kernel_rfl) 0 (by rfl) (by omega) 0 (by omega) (Vl 1 ho (Ve (Vn (Vrp (Vrp (Vf (VC_skip (VQ_block_normal (Vn (Vr (Ve (VQ_round (VCL_round (Vs ?_))))))))))))))))))
 refine Vr (Ve (Vn (Vs (Vt (VC_skip (Vn (Vs (VC_block (Vs (Vr (VL_index (d := 13) (b := b) (o := 0) (len := 2) (sz := 1) (m := 1) (by kernel_rfl) (by kernel_rfl) 1 (by rfl) (by omega) 1 (by omega) (Vl 1 ho (Ve (Vn (Vrp (Vrp (Vf (VC_skip ?_))))))))))))))))))
 refine VQ_block_normal (Vn (Vr (Ve (VQ_round (VCL_round (Vrp (Vs (Vf (VC_exit (VQ_then_exit (VQ_then_exit (VQ_block_hit (Vn (Vs (Vr (Vp 1 ?_))))))))))))))))
 have hzl1 := ho.lt
 refine Vc 1 Tryz.call121 (grow53 _) ?_
 rintro _ w1 ⟨A1, c1, rfl, hr1, hc1⟩
 replace hS := Step.trans hS hc1
 replace hA := hA.no hc1
 replace hB := hB.no hc1
 replace ho := ho.no hc1
 obtain ⟨base1, hbase1E⟩ : ∃ x, x = w.heap.size := ⟨_, rfl⟩
 rw [← hbase1E] at hr1
 have hbase1 : base1 ≤ w1.heap.size := by rw [hbase1E]; exact hc1.size
 refine Ve (Vn (Vs (Vrp (VC_block (VC_rounds (VCL_round (Vrp (Vs (Vt (VC_skip (Vn (Vs (VC_block (Vs (Vr (VL_index (d := 29) (b := b) (o := 0) (len := 2) (sz := 1) (m := 0) (by kernel_rfl) (by kernel_rfl) 0 (by rfl) (by omega) 0 (by omega) (Vl 1 ho (Ve ?_))))))))))))))))))
 refine Vn (Vr (Vp 2 ?_))
 have hzk1 := hbase1
 refine VL_appendS (d := 33) (e := 5) (A := A1) (m := 0) (c := c1) (A2 := P1) (m2 := 5) (c2 := k1) (bytes := 1) (by kernel_rfl) (by kernel_rfl) (by kernel_rfl) base1 w1.heap.size (iL .u8 ([] : List Int)) (iL .u8 xs) hr1 (by rw [iL_length]; first | done | exact hx) (Sl.mono hA (by first | exact Nat.le_refl _ | omega)) iL_one 5 (by omega) (by simp only [maxLen]; omega) (by omega) (by omega) ?_
 intro A2 c2 w2 hr2 hg1
 replace hr2 : Rw w2 base1 5 A2 5 c2 (iL .u8 (([] : List Int) ++ xs)) := Rw.cast hr2 rfl THd3ac
 replace hS := Step.transNew hS hg1 (fun i hi hG => by (try simp only at hG); omega)
 replace hB := hB.step hg1 (fun k hk hG => by (try simp only at hG); omega)
 replace ho := ho.step hg1 (by (try simp only); omega)
 replace hbase1 := Nat.le_trans hbase1 (hg1).size
 refine Ve (VQ_block_normal (Vn (Vr (Ve (VQ_round (VCL_round (Vrp (Vs (Vt (VC_skip (Vn (Vs (VC_block (Vs (Vr (VL_index (d := 29) (b := b) (o := 0) (len := 2) (sz := 1) (m := 1) (by kernel_rfl) (by kernel_rfl) 1 (by rfl) (by omega) 1 (by omega) (Vl 1 ho (Ve (Vn (Vr (Vp 2 ?_)))))))))))))))))))))
 have hzk2 := hbase1
 refine VL_appendS (d := 33) (e := 5) (A := A2) (m := 5) (c := c2) (A2 := P2) (m2 := 48) (c2 := k2) (bytes := 1) (by kernel_rfl) (by kernel_rfl) (by kernel_rfl) base1 w2.heap.size (iL .u8 (([] : List Int) ++ xs)) (iL .u8 ys) hr2 (by rw [iL_length]; first | done | exact hy) (Sl.mono hB (by first | exact Nat.le_refl _ | omega)) iL_one 53 (by omega) (by simp only [maxLen]; omega) (by omega) (by omega) ?_
 intro A3 c3 w3 hr3 hg2
 replace hr3 : Rw w3 base1 5 A3 53 c3 (iL .u8 ((([] : List Int) ++ xs) ++ ys)) := Rw.cast hr3 rfl THd3ac
 replace hS := Step.transNew hS hg2 (fun i hi hG => by (try simp only at hG); omega)
 refine Ve (VQ_block_normal (Vn (Vr (Ve (VQ_round (VCL_round (Vrp (Vs (Vf (VC_exit (VQ_then_exit (VQ_then_exit (VQ_block_hit (Vn (Vrp (VC_ret (Vr1 (.slice A3 53 c3) ?_)))))))))))))))))
 exact ⟨_, _, rfl, Rw.low (Rw.cast hr3 rfl (by simp)) (by omega), hS⟩

theorem build_yes (h : Hd) (ps : List Int) (w : World) (hp : ps.length = 48) (hok : hdOk h = true) :
  CV Tryz.prog 19 #[.agg (cellA h ps), Bo false] w (fun x w1 => ∃ A' c', x = .tuple #[.slice A' 53 c', I6 0] ∧ Rw w1 w.heap.size 5 A' 53 c' (iL .u8 (buildL h ps)) ∧ Step No w w1) := by
 have hS : Step No w w := Step.refl _ _
 have hL4 := hdB_len h
 have hL5 : (sealH (hdB h)).length = 5 := sealH_len hL4
 refine VCe Tryz.func19 (Vs (Vr ?_))
 refine Vx 0 45 (cellA h ps) ?_
 intro b1 w1 hn1
 replace hS := Step.trans hS (hn1.step No)
 have ho1 := hn1.own
 have hzhn1 := hn1.size
 have hqhn1 := hn1.eqb
 refine Ve (Vn (Vs (Vr (Vla 1 (t := 40) (a := ⟨b1, 0, none⟩) (v := .agg #[I6 h.g, I6 h.v, I6 h.c, I6 h.p, I6 h.l]) (Loads.cellH ho1 (by kernel_rfl)) (Vp 3 ?_)))))
 refine Vc 3 Tryz.call63 (hpack_yes h _ hok) ?_
 rintro _ w2 ⟨g1, rfl, hr1, hc1⟩
 replace hS := Step.trans hS hc1
 replace ho1 := ho1.no hc1
 obtain ⟨base1, hbase1E⟩ : ∃ x, x = w1.heap.size := ⟨_, rfl⟩
 rw [← hbase1E] at hr1
 refine Ve (Vn (Vs (Vrp (Vf (VC_skip (Vn (Vs (Vr (Vp 1 (VL_stap (d := 20) (A := some ⟨g1, 0, none⟩) (len := 4) (N := 4) (by kernel_rfl) (by kernel_rfl) (by omega) (Vla 2 (t := 151) (a := ⟨g1, 0, none⟩) (v := .agg (iA .u8 (hdB h))) (Loads.slArr0 (N := 4) (Rw.slI hr1) (by kernel_rfl) (Rw.lenI hr1)) ?_)))))))))))
 refine Vc 3 Tryz.call64 (hseal_any (hdB h) _ (Rw.lenI hr1)) ?_
 rintro _ w3 ⟨rfl, hc2⟩
 replace hS := Step.trans hS hc2
 replace ho1 := ho1.no hc2
 have hzl3 := ho1.lt
 refine Vx 4 149 (iA .u8 (List.replicate 5 0)) ?_
 intro b2 w4 hn2
 replace hS := Step.trans hS (hn2.step No)
 replace ho1 := ho1.no (hn2.step No)
 have ho2 := hn2.own
 have hzhn2 := hn2.size
 have hqhn2 := hn2.eqb
 refine VL_storeA (b := b2) (sz := 5) (k := .u8) (bs := sealH (hdB h)) (by kernel_rfl) (by kernel_rfl) (by (try simp only [List.length_set, List.length_append, List.length_map, List.length_replicate, List.length_cons, List.length_nil, List.length_take, List.length_drop, List.length_range]) <;> omega) ho2 (iA_size.trans (by (try simp only [List.length_set, List.length_append, List.length_map, List.length_replicate, List.length_cons, List.length_nil, List.length_take, List.length_drop, List.length_range]) <;> omega)) ?_
 intro w5 hw1
 replace hS := Step.transNew hS hw1.step (fun _ _ _ => by omega)
 replace ho1 := ho1.step hw1.step (show ¬ b1 = b2 by omega)
 have ho3 := hw1.own
 refine Ve (Vn (Vs (VC_det [[], [], [1], [0, 1, 2], [0, 1, 2, 3], [0, 1, 2, 3, 4], [0, 1, 2, 3, 4, 5]] 3 [.slice (some ⟨b2, 0, none⟩) 5 5, Pt b1 5, .slice (some ⟨b1, 5, none⟩) 48 48] [0, 1, 2] [] (by kernel_rfl) (by kernel_rfl) (by kernel_rfl) (by kernel_rfl) ?_ ?_)))
 ·exact fun _ _ => trivial
 intro w6 hs1
 replace hS := Step.trans hS hs1
 replace ho1 := ho1.no hs1
 replace ho3 := ho3.no hs1
 refine VL_keep [23, 25] [(23, .slice (some ⟨b2, 0, none⟩) 5 5), (25, .slice (some ⟨b1, 5, none⟩) 48 48)] (by kernel_rfl) ?_
 have hzl5 := ho1.lt
 refine VL_bs (d := 26) (e := 26) (c := #[.slice (some ⟨b2, 0, none⟩) 5 5, .slice (some ⟨b1, 5, none⟩) 48 48]) (len := 2) (by kernel_rfl) (by kernel_rfl) ?_
 intro b3 w7 hn3
 replace hS := Step.trans hS (hn3.step No)
 replace ho1 := ho1.no (hn3.step No)
 replace ho3 := ho3.no (hn3.step No)
 have ho4 := hn3.own
 have hzhn3 := hn3.size
 have hqhn3 := hn3.eqb
 refine Vc 4 Tryz.call65 (concat2 b3 _ _ _ _ _ _ _ _ _ (by (try simp only [List.length_set, List.length_append, List.length_map, List.length_replicate, List.length_cons, List.length_nil, List.length_take, List.length_drop, List.length_range]) <;> omega) hp (Sl.mono (Own.slI ho3 ho3.lt) (Nat.le_refl _)) (Sl.mono (Own.cellP ho1 ho1.lt) (Nat.le_refl _)) ho4 (by omega) (by omega)) ?_
 rintro _ w8 ⟨A1, c1, rfl, hr2, hc3⟩
 replace hS := Step.trans hS hc3
 obtain ⟨base2, hbase2E⟩ : ∃ x, x = w7.heap.size := ⟨_, rfl⟩
 rw [← hbase2E] at hr2
 refine Ve (Vn (VC_ret (Vr2 (.slice A1 53 c1) (I6 0) ?_)))
 exact ⟨_, _, rfl, Rw.low (Rw.cast hr2 rfl (by unfold buildL; rw [if_pos hok])) (by omega), hS⟩

theorem empty_any (h : Hd) (ps : List Int) (w : World) (hp : ps.length = 48)  :
  CV Tryz.prog 26 #[.agg (cellA h ps)] w (fun x w1 => x = Bo (emptyH h) ∧ Step No w w1) := by
 have hS : Step No w w := Step.refl _ _
 refine VCe Tryz.func26 (Vs (Vr ?_))
 refine Vx 0 45 (cellA h ps) ?_
 intro b1 w1 hn1
 replace hS := Step.trans hS (hn1.step No)
 have ho1 := hn1.own
 refine Ve (Vn (Vs (Vr (Vla 1 (t := 40) (a := ⟨b1, 0, none⟩) (v := .agg #[I6 h.g, I6 h.v, I6 h.c, I6 h.p, I6 h.l]) (Loads.cellH ho1 (by kernel_rfl)) ?_))))
 refine Vc 2 Tryz.call67 (kind_any h _) ?_
 rintro _ w2 ⟨rfl, hc1⟩
 replace hS := Step.trans hS hc1
 refine Ve (Vn (Vs (Vr (Vp 3 (Vor 9 12 6 [] ((kindH h) == 2) ((kindH h) == 3) (fun hg1 J1 => ?_) ?_)))))
 ·exact Vp 6 (Vk [12] J1)
 refine Ve (Vn (VC_ret (Vr1 (Bo (((kindH h) == 2) || ((kindH h) == 3))) ?_)))
 exact ⟨rfl, hS⟩

theorem rcparse_no (b : Nat) (r d : Int) (cf : Bool) (A : Option Addr) (n c : Nat) (X : Nat → Prop) (bs : List Int) (w : World) (hn : bs.length = n) (hA : SlX w 5 X A (iL .u8 bs)) (hb : Bytes bs) (hnc : n ≤ c) (ht : Own w b #[.int .i64 r, .int .i64 d, .bool cf] 72) (h53 : n < 53 ∨ 53 < n) :
  CV Tryz.prog 25 #[.slice A n c, .pointer (some ⟨b, 0, none⟩), .bool false] w (fun x w1 => x = .tuple #[.agg (cellA (parseH cf bs) (parseP cf bs)), .int .i64 (parseE cf bs)] ∧ (∃ r' d', Own w1 b #[.int .i64 r', .int .i64 d', .bool (parseC cf bs)] 72) ∧ Step (Just b) w w1) := by
 have hS : Step (Just b) w w := Step.refl _ _
 have hbl := ht.lt
 have hl4 : (takeH cf (bs.take 5)).length = 4 ∨ True := .inr trivial
 refine CV_enter Tryz.f25 _ 46 [(0, .slice A n c), (1, .pointer (some ⟨b, 0, none⟩)), (2, .bool false)] Tryz.func25 rfl rfl (by kernel_rfl) rfl ?_
 refine VC_seq ?_
 refine VC_region ?_
 refine VL_box (d := 6) (t := 45) (c := (cellA Hd.z (List.replicate 48 0))) (by kernel_rfl) (by kernel_rfl) ?_
 intro b1 w1 hn1
 replace hS := Step.trans hS (Step.weak (hn1.step No))
 replace ht := ht.no (hn1.step No)
 have ho1 := hn1.own
 have hzhn1 := hn1.size
 have hqhn1 := hn1.eqb
 refine VL_pure 2 [0, 1, 2, 6] [(0, .slice A n c), (1, .pointer (some ⟨b, 0, none⟩)), (2, .bool false), (6, .pointer (some ⟨b1, 0, none⟩))] (by kernel_rfl) rfl ?_
 refine VL_end (by kernel_rfl) ?_
 refine VQ_next ?_
 refine VC_seq ?_
 refine VC_block ?_
 refine VC_seq ?_
 refine VC_region ?_
 refine VL_pure 4 [0, 1, 2, 6, 12] [(0, .slice A n c), (1, .pointer (some ⟨b, 0, none⟩)), (2, .bool false), (6, .pointer (some ⟨b1, 0, none⟩)), (12, .bool (decide (((n : Nat) : Int) < 53)))] (by kernel_rfl) rfl ?_
 refine VL_end (by kernel_rfl) ?_
 refine VQ_next ?_
 refine VC_dec (((n : Nat) : Int) < 53) (by kernel_rfl) (fun h1 => ?_) (fun h1 => ?_)
 ·refine VC_seq ?_
  refine VC_region ?_
  refine VL_pure 1 [6, 16] [(6, .pointer (some ⟨b1, 0, none⟩)), (16, .agg #[.int .i64 0, .int .i64 0, .int .i64 0, .int .i64 0, .int .i64 0, .int .u8 0, .int .u8 0, .int .u8 0, .int .u8 0, .int .u8 0, .int .u8 0, .int .u8 0, .int .u8 0, .int .u8 0, .int .u8 0, .int .u8 0, .int .u8 0, .int .u8 0, .int .u8 0, .int .u8 0, .int .u8 0, .int .u8 0, .int .u8 0, .int .u8 0, .int .u8 0, .int .u8 0, .int .u8 0, .int .u8 0, .int .u8 0, .int .u8 0, .int .u8 0, .int .u8 0, .int .u8 0, .int .u8 0, .int .u8 0, .int .u8 0, .int .u8 0, .int .u8 0, .int .u8 0, .int .u8 0, .int .u8 0, .int .u8 0, .int .u8 0, .int .u8 0, .int .u8 0, .int .u8 0, .int .u8 0, .int .u8 0, .int .u8 0, .int .u8 0, .int .u8 0, .int .u8 0, .int .u8 0])] (by kernel_rfl) rfl ?_
  refine VL_storeC (b := b1) (h' := Hd.z) (ps := (List.replicate 48 0)) (by kernel_rfl) (by kernel_rfl) ho1 (List.length_replicate ..) (List.length_replicate ..) ?_
  intro w2 hw1
  replace hS := Step.transNew hS hw1.step (fun _ _ _ => by omega)
  replace ht := ht.step hw1.step (show ¬ b = b1 by omega)
  have ho2 : Own w2 b1 (cellA Hd.z (List.replicate 48 0)) 45 := hw1.own
  refine VL_pure 3 [6, 7] [(6, .pointer (some ⟨b1, 0, none⟩)), (7, .int .i64 2)] (by kernel_rfl) rfl ?_
  refine VL_end (by kernel_rfl) ?_
  refine VQ_next ?_
  refine VC_ret ?_
  refine VQ_block_ret ?_
  refine VQ_then_ret ?_
  refine VQ_retC1T1 (T := 45) (.agg (cellA Hd.z (List.replicate 48 0))) (.int .i64 2) (.inr rfl) rfl rfl rfl (Loads.cellC ho2 (List.length_replicate ..) (by kernel_rfl)) ?_
  obtain ⟨e1, e2, e3, e4⟩ := parse_short (cf := cf) (bs := bs) (by omega)
  exact ⟨by rw [e1, e2, e3], ⟨_, _, Own.cast ht (by rw [e4])⟩, hS⟩
 ·refine VC_seq ?_
  refine VC_region ?_
  refine VL_pure 4 [0, 1, 2, 6, 17] [(0, .slice A n c), (1, .pointer (some ⟨b, 0, none⟩)), (2, .bool false), (6, .pointer (some ⟨b1, 0, none⟩)), (17, .bool (decide (((n : Nat) : Int) > 53)))] (by kernel_rfl) rfl ?_
  refine VL_end (by kernel_rfl) ?_
  refine VQ_next ?_
  refine VC_dec (((n : Nat) : Int) > 53) (by kernel_rfl) (fun h2 => ?_) (fun h2 => ?_)
  ·refine VC_seq ?_
   refine VC_region ?_
   refine VL_pure 1 [6, 21] [(6, .pointer (some ⟨b1, 0, none⟩)), (21, .agg #[.int .i64 0, .int .i64 0, .int .i64 0, .int .i64 0, .int .i64 0, .int .u8 0, .int .u8 0, .int .u8 0, .int .u8 0, .int .u8 0, .int .u8 0, .int .u8 0, .int .u8 0, .int .u8 0, .int .u8 0, .int .u8 0, .int .u8 0, .int .u8 0, .int .u8 0, .int .u8 0, .int .u8 0, .int .u8 0, .int .u8 0, .int .u8 0, .int .u8 0, .int .u8 0, .int .u8 0, .int .u8 0, .int .u8 0, .int .u8 0, .int .u8 0, .int .u8 0, .int .u8 0, .int .u8 0, .int .u8 0, .int .u8 0, .int .u8 0, .int .u8 0, .int .u8 0, .int .u8 0, .int .u8 0, .int .u8 0, .int .u8 0, .int .u8 0, .int .u8 0, .int .u8 0, .int .u8 0, .int .u8 0, .int .u8 0, .int .u8 0, .int .u8 0, .int .u8 0, .int .u8 0])] (by kernel_rfl) rfl ?_
   refine VL_storeC (b := b1) (h' := Hd.z) (ps := (List.replicate 48 0)) (by kernel_rfl) (by kernel_rfl) ho1 (List.length_replicate ..) (List.length_replicate ..) ?_
   intro w3 hw2
   replace hS := Step.transNew hS hw2.step (fun _ _ _ => by omega)
   replace ht := ht.step hw2.step (show ¬ b = b1 by omega)
   have ho3 : Own w3 b1 (cellA Hd.z (List.replicate 48 0)) 45 := hw2.own
   refine VL_pure 3 [6, 7] [(6, .pointer (some ⟨b1, 0, none⟩)), (7, .int .i64 3)] (by kernel_rfl) rfl ?_
   refine VL_end (by kernel_rfl) ?_
   refine VQ_next ?_
   refine VC_ret ?_
   refine VQ_block_ret ?_
   refine VQ_then_ret ?_
   refine VQ_retC1T1 (T := 45) (.agg (cellA Hd.z (List.replicate 48 0))) (.int .i64 3) (.inr rfl) rfl rfl rfl (Loads.cellC ho3 (List.length_replicate ..) (by kernel_rfl)) ?_
   obtain ⟨e1, e2, e3, e4⟩ := parse_long (cf := cf) (bs := bs) (by omega)
   exact ⟨by rw [e1, e2, e3], ⟨_, _, Own.cast ht (by rw [e4])⟩, hS⟩
  ·exfalso; omega

theorem rcparse_53 (b : Nat) (r d : Int) (cf : Bool) (A : Option Addr) (c : Nat) (X : Nat → Prop) (bs : List Int) (w : World) (hn : bs.length = 53) (hA : SlX w 5 X A (iL .u8 bs)) (hb : Bytes bs) (hnc : 53 ≤ c) (ht : Own w b #[.int .i64 r, .int .i64 d, .bool cf] 72) :
  CV Tryz.prog 25 #[.slice A 53 c, .pointer (some ⟨b, 0, none⟩), .bool false] w (fun x w1 => x = .tuple #[.agg (cellA (parseH cf bs) (parseP cf bs)), .int .i64 (parseE cf bs)] ∧ (∃ r' d', Own w1 b #[.int .i64 r', .int .i64 d', .bool (parseC cf bs)] 72) ∧ Step (Just b) w w1) := by
 have hS : Step (Just b) w w := Step.refl _ _
 have hbl := ht.lt
 have hbT : Bytes (takeH cf (bs.take 5)) := takeH_bytes hb
 have hl4 : (takeH cf (bs.take 5)).length = 4 := takeH_len (by rw [List.length_take, hn]; rfl)
 obtain ⟨sb, so, rfl, hsb⟩ := (SlX.sl hA).open (by simp only [iL_length]; omega)
 refine CV_enter Tryz.f25 _ 46 [(0, .slice (some ⟨sb, so, none⟩) 53 c), (1, .pointer (some ⟨b, 0, none⟩)), (2, .bool false)] Tryz.func25 rfl rfl (by kernel_rfl) rfl ?_
 refine VC_seq ?_
 refine VC_region ?_
 refine VL_box (d := 6) (t := 45) (c := (cellA Hd.z (List.replicate 48 0))) (by kernel_rfl) (by kernel_rfl) ?_
 intro b1 w1 hn1
 replace hS := Step.trans hS (Step.weak (hn1.step No))
 replace ht := ht.no (hn1.step No)
 replace hA := hA.no (hn1.step No)
 have ho1 := hn1.own
 have hzhn1 := hn1.size
 have hqhn1 := hn1.eqb
 refine VL_pure 2 [0, 1, 2, 6] [(0, .slice (some ⟨sb, so, none⟩) 53 c), (1, .pointer (some ⟨b, 0, none⟩)), (2, .bool false), (6, .pointer (some ⟨b1, 0, none⟩))] (by kernel_rfl) rfl ?_
 refine VL_end (by kernel_rfl) ?_
 refine VQ_next ?_
 refine VC_seq ?_
 refine VC_block ?_
 refine VC_seq ?_
 refine VC_region ?_
 refine VL_pure 4 [0, 1, 2, 6, 12] [(0, .slice (some ⟨sb, so, none⟩) 53 c), (1, .pointer (some ⟨b, 0, none⟩)), (2, .bool false), (6, .pointer (some ⟨b1, 0, none⟩)), (12, .bool false)] (by kernel_rfl) rfl ?_
 refine VL_end (by kernel_rfl) ?_
 refine VQ_next ?_
 refine VC_false (by kernel_rfl) ?_
 refine VC_seq ?_
 refine VC_region ?_
 refine VL_pure 4 [0, 1, 2, 6, 17] [(0, .slice (some ⟨sb, so, none⟩) 53 c), (1, .pointer (some ⟨b, 0, none⟩)), (2, .bool false), (6, .pointer (some ⟨b1, 0, none⟩)), (17, .bool false)] (by kernel_rfl) rfl ?_
 refine VL_end (by kernel_rfl) ?_
 refine VQ_next ?_
 refine VC_false (by kernel_rfl) ?_
 refine VC_skip ?_
 refine VQ_block_normal ?_
 refine VQ_next ?_
 refine VC_seq ?_
 refine VC_region ?_
 refine VL_pure 2 [0, 2, 6, 23, 24] [(0, .slice (some ⟨sb, so, none⟩) 53 c), (2, .bool false), (6, .pointer (some ⟨b1, 0, none⟩)), (23, .pointer (some ⟨b, 0, none⟩)), (24, .slice (some ⟨sb, so, none⟩) 53 c)] (by kernel_rfl) rfl ?_
 refine VL_slice (d := 25) (b := sb) (o := so) (sz := 1) (len := 53) (cap := c) (lo := none) (hi := (some 5)) (mx := none) (by kernel_rfl) (by kernel_rfl) (fun h => by first | exact absurd rfl h | exact (fun h => by cases h)) 0 5 c rfl rfl rfl (by omega) (by omega) (by omega) so (by split <;> omega) 5 (by omega) c (by omega) ?_
 have hsl1 := SlX.takeI hA 5
 refine VL_stap (d := 26) (A := some ⟨sb, so, none⟩) (len := 5) (N := 5) (by kernel_rfl) (by kernel_rfl) (by omega) ?_
 refine VL_load (d := 27) (t := 149) (a := ⟨sb, so, none⟩) (v := .agg (iA .u8 (bs.take 5))) (by kernel_rfl) (by kernel_rfl) (Loads.slArr0 (N := 5) (SlX.sl hsl1) (by kernel_rfl) THd3ab) ?_
 refine VL_call (d := 28) (f := 72) (args := #[.pointer (some ⟨b, 0, none⟩), .agg (iA .u8 (bs.take 5))]) (by kernel_rfl) (by kernel_rfl) (by kernel_rfl) Tryz.call72 (rctake b r d cf (bs.take 5) _ THd3ab ht) ?_
 rintro _ w2 ⟨rfl, ⟨rr1, dd1, ho2⟩, hc1⟩
 replace hS := Step.trans hS (Step.mono hc1 THd3ad)
 replace hA := hA.own ht (by decide) hc1
 replace ho1 := ho1.step hc1 (show ¬ b1 = b by omega)
 refine VL_pure 9 [0, 2, 6, 29, 30] [(0, .slice (some ⟨sb, so, none⟩) 53 c), (2, .bool false), (6, .pointer (some ⟨b1, 0, none⟩)), (29, .agg (iA .u8 (takeH cf (bs.take 5)))), (30, .bool (takeO cf (bs.take 5)))] (by kernel_rfl) rfl ?_
 have hzl4 := ho1.lt
 have hzl5 := ho2.lt
 refine VL_box (d := 8) (t := 151) (c := iA .u8 (List.replicate 4 0)) (by kernel_rfl) (by kernel_rfl) ?_
 intro b2 w3 hn2
 replace hS := Step.trans hS (Step.weak (hn2.step No))
 replace hA := hA.no (hn2.step No)
 replace ho1 := ho1.no (hn2.step No)
 replace ho2 := ho2.no (hn2.step No)
 have ho3 := hn2.own
 have hzhn2 := hn2.size
 have hqhn2 := hn2.eqb
 refine VL_storeA (b := b2) (sz := 4) (k := .u8) (bs := takeH cf (bs.take 5)) (by kernel_rfl) (by kernel_rfl) (by (try simp only [List.length_set, List.length_append, List.length_map, List.length_replicate, List.length_cons, List.length_nil, List.length_take, List.length_drop, List.length_range]) <;> omega) ho3 (iA_size.trans (by (try simp only [List.length_set, List.length_append, List.length_map, List.length_replicate, List.length_cons, List.length_nil, List.length_take, List.length_drop, List.length_range]) <;> omega)) ?_
 intro w4 hw1
 replace hS := Step.transNew hS hw1.step (fun _ _ _ => by omega)
 replace hA := hA.own ho3 (by decide) hw1.step
 replace ho1 := ho1.step hw1.step (show ¬ b1 = b2 by omega)
 replace ho2 := ho2.step hw1.step (show ¬ b = b2 by omega)
 have ho4 := hw1.own
 refine VL_pure 12 [0, 2, 6, 8, 9] [(0, .slice (some ⟨sb, so, none⟩) 53 c), (2, .bool false), (6, .pointer (some ⟨b1, 0, none⟩)), (8, .pointer (some ⟨b2, 0, none⟩)), (9, .bool (takeO cf (bs.take 5)))] (by kernel_rfl) rfl ?_
 refine VL_end (by kernel_rfl) ?_
 refine VQ_next ?_
 refine VC_seq ?_
 refine VC_seq ?_
 refine VC_region ?_
 refine VL_pure 2 [0, 2, 6, 8, 32] [(0, .slice (some ⟨sb, so, none⟩) 53 c), (2, .bool false), (6, .pointer (some ⟨b1, 0, none⟩)), (8, .pointer (some ⟨b2, 0, none⟩)), (32, .bool (!(takeO cf (bs.take 5))))] (by kernel_rfl) rfl ?_
 refine VL_end (by kernel_rfl) ?_
 refine VQ_next ?_
 refine VC_cond (!(takeO cf (bs.take 5))) (by kernel_rfl) (fun h1 => ?_) (fun h1 => ?_)
 ·try simp only [Bool.and_eq_true, Bool.or_eq_true, decide_eq_true_eq, Bool.not_eq_true', decide_eq_false_iff_not, Bool.and_eq_false_iff, Bool.or_eq_false_iff, beq_iff_eq, bne_iff_ne, beq_eq_false_iff_ne, bne_eq_false_iff_eq, Bool.not_eq_eq_eq_not, Bool.not_true, Bool.not_false] at h1
  refine VC_seq ?_
  refine VC_region ?_
  refine VL_pure 1 [6, 33] [(6, .pointer (some ⟨b1, 0, none⟩)), (33, .agg #[.int .i64 0, .int .i64 0, .int .i64 0, .int .i64 0, .int .i64 0, .int .u8 0, .int .u8 0, .int .u8 0, .int .u8 0, .int .u8 0, .int .u8 0, .int .u8 0, .int .u8 0, .int .u8 0, .int .u8 0, .int .u8 0, .int .u8 0, .int .u8 0, .int .u8 0, .int .u8 0, .int .u8 0, .int .u8 0, .int .u8 0, .int .u8 0, .int .u8 0, .int .u8 0, .int .u8 0, .int .u8 0, .int .u8 0, .int .u8 0, .int .u8 0, .int .u8 0, .int .u8 0, .int .u8 0, .int .u8 0, .int .u8 0, .int .u8 0, .int .u8 0, .int .u8 0, .int .u8 0, .int .u8 0, .int .u8 0, .int .u8 0, .int .u8 0, .int .u8 0, .int .u8 0, .int .u8 0, .int .u8 0, .int .u8 0, .int .u8 0, .int .u8 0, .int .u8 0, .int .u8 0])] (by kernel_rfl) rfl ?_
  refine VL_storeC (b := b1) (h' := Hd.z) (ps := (List.replicate 48 0)) (by kernel_rfl) (by kernel_rfl) ho1 (List.length_replicate ..) (List.length_replicate ..) ?_
  intro w5 hw2
  replace hS := Step.transNew hS hw2.step (fun _ _ _ => by omega)
  replace ho2 := ho2.step hw2.step (show ¬ b = b1 by omega)
  have ho5 : Own w5 b1 (cellA Hd.z (List.replicate 48 0)) 45 := hw2.own
  refine VL_pure 3 [6, 7] [(6, .pointer (some ⟨b1, 0, none⟩)), (7, .int .i64 4)] (by kernel_rfl) rfl ?_
  refine VL_end (by kernel_rfl) ?_
  refine VQ_next ?_
  refine VC_ret ?_
  refine VQ_then_ret ?_
  refine VQ_retC1T1 (T := 45) (.agg (cellA Hd.z (List.replicate 48 0))) (.int .i64 4) (.inr rfl) rfl rfl rfl (Loads.cellC ho5 (List.length_replicate ..) (by kernel_rfl)) ?_
  obtain ⟨e1, e2, e3, e4⟩ := parse_sum (cf := cf) (bs := bs) (by omega) (by assumption)
  exact ⟨by rw [e1, e2, e3], ⟨_, _, Own.cast ho2 (by rw [e4])⟩, hS⟩
 ·try simp only [Bool.and_eq_true, Bool.or_eq_true, decide_eq_true_eq, Bool.not_eq_true', decide_eq_false_iff_not, Bool.and_eq_false_iff, Bool.or_eq_false_iff, beq_iff_eq, bne_iff_ne, beq_eq_false_iff_ne, bne_eq_false_iff_eq, Bool.not_eq_eq_eq_not, Bool.not_true, Bool.not_false] at h1
  refine VC_skip ?_
  refine VQ_next ?_
  refine VC_seq ?_
  refine VC_region ?_
  refine VL_pure 2 [0, 6, 35, 36] [(0, .slice (some ⟨sb, so, none⟩) 53 c), (6, .pointer (some ⟨b1, 0, none⟩)), (35, .slice (some ⟨b2, 0, none⟩) 4 4), (36, .bool false)] (by kernel_rfl) rfl ?_
  refine VL_call (d := 37) (f := 73) (args := #[.slice (some ⟨b2, 0, none⟩) 4 4, .bool false]) (by kernel_rfl) (by kernel_rfl) (by kernel_rfl) Tryz.call73 (hunp_any (some ⟨b2, 0, none⟩) _ _ (takeH cf (bs.take 5)) _ (by (try simp only [List.length_set, List.length_append, List.length_map, List.length_replicate, List.length_cons, List.length_nil, List.length_take, List.length_drop, List.length_range]) <;> omega) (Own.slI ho4 ho4.lt) hbT (by omega)) ?_
  rintro _ w6 ⟨rfl, hc2⟩
  replace hS := Step.trans hS (Step.weak hc2)
  replace hA := hA.no hc2
  replace ho1 := ho1.no hc2
  replace ho2 := ho2.no hc2
  refine VL_pure 6 [0, 6, 38, 39] [(0, .slice (some ⟨sb, so, none⟩) 53 c), (6, .pointer (some ⟨b1, 0, none⟩)), (38, .agg #[.int .i64 ((unH (takeH cf (bs.take 5))).g), .int .i64 ((unH (takeH cf (bs.take 5))).v), .int .i64 ((unH (takeH cf (bs.take 5))).c), .int .i64 ((unH (takeH cf (bs.take 5))).p), .int .i64 ((unH (takeH cf (bs.take 5))).l)]), (39, .int .i64 0)] (by kernel_rfl) rfl ?_
  have hzl11 := ho1.lt
  have hzl12 := ho2.lt
  refine VL_box (d := 10) (t := 40) (c := #[.int .i64 0, .int .i64 0, .int .i64 0, .int .i64 0, .int .i64 0]) (by kernel_rfl) (by kernel_rfl) ?_
  intro b3 w7 hn3
  replace hS := Step.trans hS (Step.weak (hn3.step No))
  replace hA := hA.no (hn3.step No)
  replace ho1 := ho1.no (hn3.step No)
  replace ho2 := ho2.no (hn3.step No)
  have ho6 := hn3.own
  have hzhn3 := hn3.size
  have hqhn3 := hn3.eqb
  refine VL_store (b := b3) (o := 0) (vs := [.int .i64 ((unH (takeH cf (bs.take 5))).g), .int .i64 ((unH (takeH cf (bs.take 5))).v), .int .i64 ((unH (takeH cf (bs.take 5))).c), .int .i64 ((unH (takeH cf (bs.take 5))).p), .int .i64 ((unH (takeH cf (bs.take 5))).l)]) (by kernel_rfl) (by kernel_rfl) ho6 (Nat.le_of_ble_eq_true (by kernel_rfl)) ?_
  intro w8 hw3
  replace hS := Step.transNew hS hw3.step (fun _ _ _ => by omega)
  replace hA := hA.own ho6 (by decide) hw3.step
  replace ho1 := ho1.step hw3.step (show ¬ b1 = b3 by omega)
  replace ho2 := ho2.step hw3.step (show ¬ b = b3 by omega)
  have ho7 : Own w8 b3 #[.int .i64 ((unH (takeH cf (bs.take 5))).g), .int .i64 ((unH (takeH cf (bs.take 5))).v), .int .i64 ((unH (takeH cf (bs.take 5))).c), .int .i64 ((unH (takeH cf (bs.take 5))).p), .int .i64 ((unH (takeH cf (bs.take 5))).l)] 40 := Own.cast hw3.own (by kernel_rfl)
  have hzhw3 := hw3.same
  refine VL_pure 9 [0, 6, 10] [(0, .slice (some ⟨sb, so, none⟩) 53 c), (6, .pointer (some ⟨b1, 0, none⟩)), (10, .pointer (some ⟨b3, 0, none⟩))] (by kernel_rfl) rfl ?_
  refine VL_end (by kernel_rfl) ?_
  refine VQ_next ?_
  refine VC_seq ?_
  have hs1 := drew_step w8
  have hs1z : w8.heap.size = w8.drew.heap.size := rfl
  refine VC_text [[], [], [1], [1, 2], [1, 2, 3], [0, 1, 2, 3, 4], [0, 1, 2, 3, 4, 5], [0, 1, 2, 3, 4, 5, 6]] 5 (fun x y => Step (fun k => w8.heap.size ≤ k) x y) [] [0, 1, 2, 3, 4] (by kernel_rfl) (by kernel_rfl) (by kernel_rfl) (by kernel_rfl) (fun x => Step.refl _ x) (fun h k => Step.trans h k) Step.weak ?_
  generalize w8.drew = w9 at hs1 hs1z ⊢
  replace hS := Step.trans hS (Step.weak hs1)
  replace hA := hA.no hs1
  replace ho1 := ho1.no hs1
  replace ho2 := ho2.no hs1
  replace ho7 := ho7.no hs1
  refine VT_load (d := 40) (t := 40) (a := ⟨b3, 0, none⟩) (v := .agg #[.int .i64 ((unH (takeH cf (bs.take 5))).g), .int .i64 ((unH (takeH cf (bs.take 5))).v), .int .i64 ((unH (takeH cf (bs.take 5))).c), .int .i64 ((unH (takeH cf (bs.take 5))).p), .int .i64 ((unH (takeH cf (bs.take 5))).l)]) (by kernel_rfl) (by kernel_rfl) ?_ ?_
  ·intro w10 hr1
   replace ho7 := ho7.step hr1 (by (try simp only); omega)
   exact (Loads.ownL ho7 (n := 5) (by kernel_rfl) (by kernel_rfl) (by kernel_rfl))
  refine VT_pures 1 (kn' := [(1, .slice (some ⟨sb, so, none⟩) 53 c), (0, .agg #[.int .i64 ((unH (takeH cf (bs.take 5))).g), .int .i64 ((unH (takeH cf (bs.take 5))).v), .int .i64 ((unH (takeH cf (bs.take 5))).c), .int .i64 ((unH (takeH cf (bs.take 5))).p), .int .i64 ((unH (takeH cf (bs.take 5))).l)])]) (by kernel_rfl) ?_
  obtain ⟨so1, hso1⟩ : ∃ x, (if c = 5 then so else so + 5 * 1) = x := ⟨_, rfl⟩
  refine VT_slice (d := 42) (b := sb) (o := so) (sz := 1) (len := 53) (cap := c) (lo := (some 5)) (hi := none) (mx := none) (by kernel_rfl) (by kernel_rfl) (fun h => by first | exact absurd rfl h | exact (fun h => by cases h)) 5 53 c rfl rfl rfl (by omega) (by omega) (by omega) so1 hso1 48 (by omega) (c - 5) (by omega) ?_
  have hsl2 := Sl.cutI (H := 53) (SlX.sl hA) hso1 (by omega)
  refine VT_stap (d := 43) (A := some ⟨sb, so1, none⟩) (len := 48) (N := 48) (by kernel_rfl) (by kernel_rfl) (by omega) ?_
  refine VT_load (d := 44) (t := 43) (a := ⟨sb, so1, none⟩) (v := .agg (iA .u8 ((bs.drop 5).take (53 - 5)))) (by kernel_rfl) (by kernel_rfl) ?_ ?_
  ·intro w11 hr2
   replace hsl2 := hsl2.keepB hr2 (by (try simp only); omega)
   exact (Loads.slArr0 (N := 48) hsl2 (by kernel_rfl) THd3aa)
  refine VT_end ?_
  intro w12 hs2
  replace hS := Step.trans hS (Step.weak hs2)
  replace ho1 := ho1.no hs2
  replace ho2 := ho2.no hs2
  refine VL_keep [6, 40, 44] [(6, .pointer (some ⟨b1, 0, none⟩)), (40, .agg #[.int .i64 ((unH (takeH cf (bs.take 5))).g), .int .i64 ((unH (takeH cf (bs.take 5))).v), .int .i64 ((unH (takeH cf (bs.take 5))).c), .int .i64 ((unH (takeH cf (bs.take 5))).p), .int .i64 ((unH (takeH cf (bs.take 5))).l)]), (44, .agg (iA .u8 ((bs.drop 5).take (53 - 5))))] (by kernel_rfl) ?_
  refine VL_b2 (d := 45) (t := 45) (x := .agg #[.int .i64 ((unH (takeH cf (bs.take 5))).g), .int .i64 ((unH (takeH cf (bs.take 5))).v), .int .i64 ((unH (takeH cf (bs.take 5))).c), .int .i64 ((unH (takeH cf (bs.take 5))).p), .int .i64 ((unH (takeH cf (bs.take 5))).l)]) (y := .agg (iA .u8 ((bs.drop 5).take (53 - 5)))) (v := .agg (cellA (unH (takeH cf (bs.take 5))) ((bs.drop 5).take (53 - 5)))) (by kernel_rfl) (by kernel_rfl) (fun w9 => run_build_cell (h := (unH (takeH cf (bs.take 5)))) (ps := ((bs.drop 5).take (53 - 5))) THd3aa w9) ?_
  refine VL_storeC (b := b1) (h' := (unH (takeH cf (bs.take 5)))) (ps := ((bs.drop 5).take (53 - 5))) (by kernel_rfl) (by kernel_rfl) ho1 THd3aa (List.length_replicate ..) ?_
  intro w13 hw4
  replace hS := Step.transNew hS hw4.step (fun _ _ _ => by omega)
  replace ho2 := ho2.step hw4.step (show ¬ b = b1 by omega)
  have ho8 : Own w13 b1 (cellA (unH (takeH cf (bs.take 5))) ((bs.drop 5).take (53 - 5))) 45 := hw4.own
  refine VL_pure 8 [6, 7] [(6, .pointer (some ⟨b1, 0, none⟩)), (7, .int .i64 0)] (by kernel_rfl) rfl ?_
  refine VL_end (by kernel_rfl) ?_
  refine VQ_next ?_
  refine VC_ret ?_
  refine VQ_retC1T1 (T := 45) (.agg (cellA (unH (takeH cf (bs.take 5))) ((bs.drop 5).take (53 - 5)))) (.int .i64 0) (.inr rfl) rfl rfl rfl (Loads.cellC ho8 THd3aa (by kernel_rfl)) ?_
  obtain ⟨e1, e2, e3, e4⟩ := parse_ok (cf := cf) (bs := bs) (by omega) (by assumption)
  exact ⟨by rw [e1, e2, e3, show (bs.drop 5).take (53 - 5) = bs.drop 5 from List.take_of_length_le (by rw [List.length_drop]; omega)], ⟨_, _, Own.cast ho2 (by rw [e4])⟩, hS⟩

theorem rcparse_any (b : Nat) (r d : Int) (cf : Bool) (A : Option Addr) (n c : Nat) (X : Nat → Prop) (bs : List Int) (w : World) (hn : bs.length = n) (hA : SlX w 5 X A (iL .u8 bs)) (hb : Bytes bs) (hnc : n ≤ c) (ht : Own w b #[.int .i64 r, .int .i64 d, .bool cf] 72) : CV Tryz.prog 25 #[.slice A n c, .pointer (some ⟨b, 0, none⟩), .bool false] w (fun x w1 => x = .tuple #[.agg (cellA (parseH cf bs) (parseP cf bs)), .int .i64 (parseE cf bs)] ∧ (∃ r' d', Own w1 b #[.int .i64 r', .int .i64 d', .bool (parseC cf bs)] 72) ∧ Step (Just b) w w1) := by
  by_cases h : n = 53
  · subst h; exact rcparse_53 b r d cf A c X bs w hn hA hb hnc ht
  · exact rcparse_no b r d cf A n c X bs w hn hA hb hnc ht (by omega)
theorem lkparse_no (b : Nat) (r d : Int) (cf : Bool) (gp : Nat) (dn : Bool) (A : Option Addr) (n c : Nat) (X : Nat → Prop) (bs : List Int) (w : World) (hn : bs.length = n) (hA : SlX w 5 X A (iL .u8 bs)) (hb : Bytes bs) (hnc : n ≤ c) (ht : Own w b #[.int .i64 r, .int .i64 d, .bool cf, .pointer (some ⟨gp, 0, none⟩), .bool dn] 134) (h53 : n < 53 ∨ 53 < n) :
  CV Tryz.prog 25 #[.slice A n c, .pointer (some ⟨b, 0, none⟩), .bool false] w (fun x w1 => x = .tuple #[.agg (cellA (parseH cf bs) (parseP cf bs)), .int .i64 (parseE cf bs)] ∧ (∃ r' d', Own w1 b #[.int .i64 r', .int .i64 d', .bool (parseC cf bs), .pointer (some ⟨gp, 0, none⟩), .bool dn] 134) ∧ Step (Just b) w w1) := by
 have hS : Step (Just b) w w := Step.refl _ _
 have hbl := ht.lt
 have hl4 : (takeH cf (bs.take 5)).length = 4 ∨ True := .inr trivial
 refine CV_enter Tryz.f25 _ 46 [(0, .slice A n c), (1, .pointer (some ⟨b, 0, none⟩)), (2, .bool false)] Tryz.func25 rfl rfl (by kernel_rfl) rfl ?_
 refine VC_seq ?_
 refine VC_region ?_
 refine VL_box (d := 6) (t := 45) (c := (cellA Hd.z (List.replicate 48 0))) (by kernel_rfl) (by kernel_rfl) ?_
 intro b1 w1 hn1
 replace hS := Step.trans hS (Step.weak (hn1.step No))
 replace ht := ht.no (hn1.step No)
 have ho1 := hn1.own
 have hzhn1 := hn1.size
 have hqhn1 := hn1.eqb
 refine VL_pure 2 [0, 1, 2, 6] [(0, .slice A n c), (1, .pointer (some ⟨b, 0, none⟩)), (2, .bool false), (6, .pointer (some ⟨b1, 0, none⟩))] (by kernel_rfl) rfl ?_
 refine VL_end (by kernel_rfl) ?_
 refine VQ_next ?_
 refine VC_seq ?_
 refine VC_block ?_
 refine VC_seq ?_
 refine VC_region ?_
 refine VL_pure 4 [0, 1, 2, 6, 12] [(0, .slice A n c), (1, .pointer (some ⟨b, 0, none⟩)), (2, .bool false), (6, .pointer (some ⟨b1, 0, none⟩)), (12, .bool (decide (((n : Nat) : Int) < 53)))] (by kernel_rfl) rfl ?_
 refine VL_end (by kernel_rfl) ?_
 refine VQ_next ?_
 refine VC_dec (((n : Nat) : Int) < 53) (by kernel_rfl) (fun h1 => ?_) (fun h1 => ?_)
 ·refine VC_seq ?_
  refine VC_region ?_
  refine VL_pure 1 [6, 16] [(6, .pointer (some ⟨b1, 0, none⟩)), (16, .agg #[.int .i64 0, .int .i64 0, .int .i64 0, .int .i64 0, .int .i64 0, .int .u8 0, .int .u8 0, .int .u8 0, .int .u8 0, .int .u8 0, .int .u8 0, .int .u8 0, .int .u8 0, .int .u8 0, .int .u8 0, .int .u8 0, .int .u8 0, .int .u8 0, .int .u8 0, .int .u8 0, .int .u8 0, .int .u8 0, .int .u8 0, .int .u8 0, .int .u8 0, .int .u8 0, .int .u8 0, .int .u8 0, .int .u8 0, .int .u8 0, .int .u8 0, .int .u8 0, .int .u8 0, .int .u8 0, .int .u8 0, .int .u8 0, .int .u8 0, .int .u8 0, .int .u8 0, .int .u8 0, .int .u8 0, .int .u8 0, .int .u8 0, .int .u8 0, .int .u8 0, .int .u8 0, .int .u8 0, .int .u8 0, .int .u8 0, .int .u8 0, .int .u8 0, .int .u8 0, .int .u8 0])] (by kernel_rfl) rfl ?_
  refine VL_storeC (b := b1) (h' := Hd.z) (ps := (List.replicate 48 0)) (by kernel_rfl) (by kernel_rfl) ho1 (List.length_replicate ..) (List.length_replicate ..) ?_
  intro w2 hw1
  replace hS := Step.transNew hS hw1.step (fun _ _ _ => by omega)
  replace ht := ht.step hw1.step (show ¬ b = b1 by omega)
  have ho2 : Own w2 b1 (cellA Hd.z (List.replicate 48 0)) 45 := hw1.own
  refine VL_pure 3 [6, 7] [(6, .pointer (some ⟨b1, 0, none⟩)), (7, .int .i64 2)] (by kernel_rfl) rfl ?_
  refine VL_end (by kernel_rfl) ?_
  refine VQ_next ?_
  refine VC_ret ?_
  refine VQ_block_ret ?_
  refine VQ_then_ret ?_
  refine VQ_retC1T1 (T := 45) (.agg (cellA Hd.z (List.replicate 48 0))) (.int .i64 2) (.inr rfl) rfl rfl rfl (Loads.cellC ho2 (List.length_replicate ..) (by kernel_rfl)) ?_
  obtain ⟨e1, e2, e3, e4⟩ := parse_short (cf := cf) (bs := bs) (by omega)
  exact ⟨by rw [e1, e2, e3], ⟨_, _, Own.cast ht (by rw [e4])⟩, hS⟩
 ·refine VC_seq ?_
  refine VC_region ?_
  refine VL_pure 4 [0, 1, 2, 6, 17] [(0, .slice A n c), (1, .pointer (some ⟨b, 0, none⟩)), (2, .bool false), (6, .pointer (some ⟨b1, 0, none⟩)), (17, .bool (decide (((n : Nat) : Int) > 53)))] (by kernel_rfl) rfl ?_
  refine VL_end (by kernel_rfl) ?_
  refine VQ_next ?_
  refine VC_dec (((n : Nat) : Int) > 53) (by kernel_rfl) (fun h2 => ?_) (fun h2 => ?_)
  ·refine VC_seq ?_
   refine VC_region ?_
   refine VL_pure 1 [6, 21] [(6, .pointer (some ⟨b1, 0, none⟩)), (21, .agg #[.int .i64 0, .int .i64 0, .int .i64 0, .int .i64 0, .int .i64 0, .int .u8 0, .int .u8 0, .int .u8 0, .int .u8 0, .int .u8 0, .int .u8 0, .int .u8 0, .int .u8 0, .int .u8 0, .int .u8 0, .int .u8 0, .int .u8 0, .int .u8 0, .int .u8 0, .int .u8 0, .int .u8 0, .int .u8 0, .int .u8 0, .int .u8 0, .int .u8 0, .int .u8 0, .int .u8 0, .int .u8 0, .int .u8 0, .int .u8 0, .int .u8 0, .int .u8 0, .int .u8 0, .int .u8 0, .int .u8 0, .int .u8 0, .int .u8 0, .int .u8 0, .int .u8 0, .int .u8 0, .int .u8 0, .int .u8 0, .int .u8 0, .int .u8 0, .int .u8 0, .int .u8 0, .int .u8 0, .int .u8 0, .int .u8 0, .int .u8 0, .int .u8 0, .int .u8 0, .int .u8 0])] (by kernel_rfl) rfl ?_
   refine VL_storeC (b := b1) (h' := Hd.z) (ps := (List.replicate 48 0)) (by kernel_rfl) (by kernel_rfl) ho1 (List.length_replicate ..) (List.length_replicate ..) ?_
   intro w3 hw2
   replace hS := Step.transNew hS hw2.step (fun _ _ _ => by omega)
   replace ht := ht.step hw2.step (show ¬ b = b1 by omega)
   have ho3 : Own w3 b1 (cellA Hd.z (List.replicate 48 0)) 45 := hw2.own
   refine VL_pure 3 [6, 7] [(6, .pointer (some ⟨b1, 0, none⟩)), (7, .int .i64 3)] (by kernel_rfl) rfl ?_
   refine VL_end (by kernel_rfl) ?_
   refine VQ_next ?_
   refine VC_ret ?_
   refine VQ_block_ret ?_
   refine VQ_then_ret ?_
   refine VQ_retC1T1 (T := 45) (.agg (cellA Hd.z (List.replicate 48 0))) (.int .i64 3) (.inr rfl) rfl rfl rfl (Loads.cellC ho3 (List.length_replicate ..) (by kernel_rfl)) ?_
   obtain ⟨e1, e2, e3, e4⟩ := parse_long (cf := cf) (bs := bs) (by omega)
   exact ⟨by rw [e1, e2, e3], ⟨_, _, Own.cast ht (by rw [e4])⟩, hS⟩
  ·exfalso; omega

theorem lkparse_53 (b : Nat) (r d : Int) (cf : Bool) (gp : Nat) (dn : Bool) (A : Option Addr) (c : Nat) (X : Nat → Prop) (bs : List Int) (w : World) (hn : bs.length = 53) (hA : SlX w 5 X A (iL .u8 bs)) (hb : Bytes bs) (hnc : 53 ≤ c) (ht : Own w b #[.int .i64 r, .int .i64 d, .bool cf, .pointer (some ⟨gp, 0, none⟩), .bool dn] 134) :
  CV Tryz.prog 25 #[.slice A 53 c, .pointer (some ⟨b, 0, none⟩), .bool false] w (fun x w1 => x = .tuple #[.agg (cellA (parseH cf bs) (parseP cf bs)), .int .i64 (parseE cf bs)] ∧ (∃ r' d', Own w1 b #[.int .i64 r', .int .i64 d', .bool (parseC cf bs), .pointer (some ⟨gp, 0, none⟩), .bool dn] 134) ∧ Step (Just b) w w1) := by
 have hS : Step (Just b) w w := Step.refl _ _
 have hbl := ht.lt
 have hbT : Bytes (takeH cf (bs.take 5)) := takeH_bytes hb
 have hl4 : (takeH cf (bs.take 5)).length = 4 := takeH_len (by rw [List.length_take, hn]; rfl)
 obtain ⟨sb, so, rfl, hsb⟩ := (SlX.sl hA).open (by simp only [iL_length]; omega)
 refine CV_enter Tryz.f25 _ 46 [(0, .slice (some ⟨sb, so, none⟩) 53 c), (1, .pointer (some ⟨b, 0, none⟩)), (2, .bool false)] Tryz.func25 rfl rfl (by kernel_rfl) rfl ?_
 refine VC_seq ?_
 refine VC_region ?_
 refine VL_box (d := 6) (t := 45) (c := (cellA Hd.z (List.replicate 48 0))) (by kernel_rfl) (by kernel_rfl) ?_
 intro b1 w1 hn1
 replace hS := Step.trans hS (Step.weak (hn1.step No))
 replace ht := ht.no (hn1.step No)
 replace hA := hA.no (hn1.step No)
 have ho1 := hn1.own
 have hzhn1 := hn1.size
 have hqhn1 := hn1.eqb
 refine VL_pure 2 [0, 1, 2, 6] [(0, .slice (some ⟨sb, so, none⟩) 53 c), (1, .pointer (some ⟨b, 0, none⟩)), (2, .bool false), (6, .pointer (some ⟨b1, 0, none⟩))] (by kernel_rfl) rfl ?_
 refine VL_end (by kernel_rfl) ?_
 refine VQ_next ?_
 refine VC_seq ?_
 refine VC_block ?_
 refine VC_seq ?_
 refine VC_region ?_
 refine VL_pure 4 [0, 1, 2, 6, 12] [(0, .slice (some ⟨sb, so, none⟩) 53 c), (1, .pointer (some ⟨b, 0, none⟩)), (2, .bool false), (6, .pointer (some ⟨b1, 0, none⟩)), (12, .bool false)] (by kernel_rfl) rfl ?_
 refine VL_end (by kernel_rfl) ?_
 refine VQ_next ?_
 refine VC_false (by kernel_rfl) ?_
 refine VC_seq ?_
 refine VC_region ?_
 refine VL_pure 4 [0, 1, 2, 6, 17] [(0, .slice (some ⟨sb, so, none⟩) 53 c), (1, .pointer (some ⟨b, 0, none⟩)), (2, .bool false), (6, .pointer (some ⟨b1, 0, none⟩)), (17, .bool false)] (by kernel_rfl) rfl ?_
 refine VL_end (by kernel_rfl) ?_
 refine VQ_next ?_
 refine VC_false (by kernel_rfl) ?_
 refine VC_skip ?_
 refine VQ_block_normal ?_
 refine VQ_next ?_
 refine VC_seq ?_
 refine VC_region ?_
 refine VL_pure 2 [0, 2, 6, 23, 24] [(0, .slice (some ⟨sb, so, none⟩) 53 c), (2, .bool false), (6, .pointer (some ⟨b1, 0, none⟩)), (23, .pointer (some ⟨b, 0, none⟩)), (24, .slice (some ⟨sb, so, none⟩) 53 c)] (by kernel_rfl) rfl ?_
 refine VL_slice (d := 25) (b := sb) (o := so) (sz := 1) (len := 53) (cap := c) (lo := none) (hi := (some 5)) (mx := none) (by kernel_rfl) (by kernel_rfl) (fun h => by first | exact absurd rfl h | exact (fun h => by cases h)) 0 5 c rfl rfl rfl (by omega) (by omega) (by omega) so (by split <;> omega) 5 (by omega) c (by omega) ?_
 have hsl1 := SlX.takeI hA 5
 refine VL_stap (d := 26) (A := some ⟨sb, so, none⟩) (len := 5) (N := 5) (by kernel_rfl) (by kernel_rfl) (by omega) ?_
 refine VL_load (d := 27) (t := 149) (a := ⟨sb, so, none⟩) (v := .agg (iA .u8 (bs.take 5))) (by kernel_rfl) (by kernel_rfl) (Loads.slArr0 (N := 5) (SlX.sl hsl1) (by kernel_rfl) THd3ab) ?_
 refine VL_call (d := 28) (f := 72) (args := #[.pointer (some ⟨b, 0, none⟩), .agg (iA .u8 (bs.take 5))]) (by kernel_rfl) (by kernel_rfl) (by kernel_rfl) Tryz.call72 (lktake b r d cf _ _ (bs.take 5) _ THd3ab ht) ?_
 rintro _ w2 ⟨rfl, ⟨rr1, dd1, ho2⟩, hc1⟩
 replace hS := Step.trans hS (Step.mono hc1 THd3ad)
 replace hA := hA.own ht (by decide) hc1
 replace ho1 := ho1.step hc1 (show ¬ b1 = b by omega)
 refine VL_pure 9 [0, 2, 6, 29, 30] [(0, .slice (some ⟨sb, so, none⟩) 53 c), (2, .bool false), (6, .pointer (some ⟨b1, 0, none⟩)), (29, .agg (iA .u8 (takeH cf (bs.take 5)))), (30, .bool (takeO cf (bs.take 5)))] (by kernel_rfl) rfl ?_
 have hzl4 := ho1.lt
 have hzl5 := ho2.lt
 refine VL_box (d := 8) (t := 151) (c := iA .u8 (List.replicate 4 0)) (by kernel_rfl) (by kernel_rfl) ?_
 intro b2 w3 hn2
 replace hS := Step.trans hS (Step.weak (hn2.step No))
 replace hA := hA.no (hn2.step No)
 replace ho1 := ho1.no (hn2.step No)
 replace ho2 := ho2.no (hn2.step No)
 have ho3 := hn2.own
 have hzhn2 := hn2.size
 have hqhn2 := hn2.eqb
 refine VL_storeA (b := b2) (sz := 4) (k := .u8) (bs := takeH cf (bs.take 5)) (by kernel_rfl) (by kernel_rfl) (by (try simp only [List.length_set, List.length_append, List.length_map, List.length_replicate, List.length_cons, List.length_nil, List.length_take, List.length_drop, List.length_range]) <;> omega) ho3 (iA_size.trans (by (try simp only [List.length_set, List.length_append, List.length_map, List.length_replicate, List.length_cons, List.length_nil, List.length_take, List.length_drop, List.length_range]) <;> omega)) ?_
 intro w4 hw1
 replace hS := Step.transNew hS hw1.step (fun _ _ _ => by omega)
 replace hA := hA.own ho3 (by decide) hw1.step
 replace ho1 := ho1.step hw1.step (show ¬ b1 = b2 by omega)
 replace ho2 := ho2.step hw1.step (show ¬ b = b2 by omega)
 have ho4 := hw1.own
 refine VL_pure 12 [0, 2, 6, 8, 9] [(0, .slice (some ⟨sb, so, none⟩) 53 c), (2, .bool false), (6, .pointer (some ⟨b1, 0, none⟩)), (8, .pointer (some ⟨b2, 0, none⟩)), (9, .bool (takeO cf (bs.take 5)))] (by kernel_rfl) rfl ?_
 refine VL_end (by kernel_rfl) ?_
 refine VQ_next ?_
 refine VC_seq ?_
 refine VC_seq ?_
 refine VC_region ?_
 refine VL_pure 2 [0, 2, 6, 8, 32] [(0, .slice (some ⟨sb, so, none⟩) 53 c), (2, .bool false), (6, .pointer (some ⟨b1, 0, none⟩)), (8, .pointer (some ⟨b2, 0, none⟩)), (32, .bool (!(takeO cf (bs.take 5))))] (by kernel_rfl) rfl ?_
 refine VL_end (by kernel_rfl) ?_
 refine VQ_next ?_
 refine VC_cond (!(takeO cf (bs.take 5))) (by kernel_rfl) (fun h1 => ?_) (fun h1 => ?_)
 ·try simp only [Bool.and_eq_true, Bool.or_eq_true, decide_eq_true_eq, Bool.not_eq_true', decide_eq_false_iff_not, Bool.and_eq_false_iff, Bool.or_eq_false_iff, beq_iff_eq, bne_iff_ne, beq_eq_false_iff_ne, bne_eq_false_iff_eq, Bool.not_eq_eq_eq_not, Bool.not_true, Bool.not_false] at h1
  refine VC_seq ?_
  refine VC_region ?_
  refine VL_pure 1 [6, 33] [(6, .pointer (some ⟨b1, 0, none⟩)), (33, .agg #[.int .i64 0, .int .i64 0, .int .i64 0, .int .i64 0, .int .i64 0, .int .u8 0, .int .u8 0, .int .u8 0, .int .u8 0, .int .u8 0, .int .u8 0, .int .u8 0, .int .u8 0, .int .u8 0, .int .u8 0, .int .u8 0, .int .u8 0, .int .u8 0, .int .u8 0, .int .u8 0, .int .u8 0, .int .u8 0, .int .u8 0, .int .u8 0, .int .u8 0, .int .u8 0, .int .u8 0, .int .u8 0, .int .u8 0, .int .u8 0, .int .u8 0, .int .u8 0, .int .u8 0, .int .u8 0, .int .u8 0, .int .u8 0, .int .u8 0, .int .u8 0, .int .u8 0, .int .u8 0, .int .u8 0, .int .u8 0, .int .u8 0, .int .u8 0, .int .u8 0, .int .u8 0, .int .u8 0, .int .u8 0, .int .u8 0, .int .u8 0, .int .u8 0, .int .u8 0, .int .u8 0])] (by kernel_rfl) rfl ?_
  refine VL_storeC (b := b1) (h' := Hd.z) (ps := (List.replicate 48 0)) (by kernel_rfl) (by kernel_rfl) ho1 (List.length_replicate ..) (List.length_replicate ..) ?_
  intro w5 hw2
  replace hS := Step.transNew hS hw2.step (fun _ _ _ => by omega)
  replace ho2 := ho2.step hw2.step (show ¬ b = b1 by omega)
  have ho5 : Own w5 b1 (cellA Hd.z (List.replicate 48 0)) 45 := hw2.own
  refine VL_pure 3 [6, 7] [(6, .pointer (some ⟨b1, 0, none⟩)), (7, .int .i64 4)] (by kernel_rfl) rfl ?_
  refine VL_end (by kernel_rfl) ?_
  refine VQ_next ?_
  refine VC_ret ?_
  refine VQ_then_ret ?_
  refine VQ_retC1T1 (T := 45) (.agg (cellA Hd.z (List.replicate 48 0))) (.int .i64 4) (.inr rfl) rfl rfl rfl (Loads.cellC ho5 (List.length_replicate ..) (by kernel_rfl)) ?_
  obtain ⟨e1, e2, e3, e4⟩ := parse_sum (cf := cf) (bs := bs) (by omega) (by assumption)
  exact ⟨by rw [e1, e2, e3], ⟨_, _, Own.cast ho2 (by rw [e4])⟩, hS⟩
 ·try simp only [Bool.and_eq_true, Bool.or_eq_true, decide_eq_true_eq, Bool.not_eq_true', decide_eq_false_iff_not, Bool.and_eq_false_iff, Bool.or_eq_false_iff, beq_iff_eq, bne_iff_ne, beq_eq_false_iff_ne, bne_eq_false_iff_eq, Bool.not_eq_eq_eq_not, Bool.not_true, Bool.not_false] at h1
  refine VC_skip ?_
  refine VQ_next ?_
  refine VC_seq ?_
  refine VC_region ?_
  refine VL_pure 2 [0, 6, 35, 36] [(0, .slice (some ⟨sb, so, none⟩) 53 c), (6, .pointer (some ⟨b1, 0, none⟩)), (35, .slice (some ⟨b2, 0, none⟩) 4 4), (36, .bool false)] (by kernel_rfl) rfl ?_
  refine VL_call (d := 37) (f := 73) (args := #[.slice (some ⟨b2, 0, none⟩) 4 4, .bool false]) (by kernel_rfl) (by kernel_rfl) (by kernel_rfl) Tryz.call73 (hunp_any (some ⟨b2, 0, none⟩) _ _ (takeH cf (bs.take 5)) _ (by (try simp only [List.length_set, List.length_append, List.length_map, List.length_replicate, List.length_cons, List.length_nil, List.length_take, List.length_drop, List.length_range]) <;> omega) (Own.slI ho4 ho4.lt) hbT (by omega)) ?_
  rintro _ w6 ⟨rfl, hc2⟩
  replace hS := Step.trans hS (Step.weak hc2)
  replace hA := hA.no hc2
  replace ho1 := ho1.no hc2
  replace ho2 := ho2.no hc2
  refine VL_pure 6 [0, 6, 38, 39] [(0, .slice (some ⟨sb, so, none⟩) 53 c), (6, .pointer (some ⟨b1, 0, none⟩)), (38, .agg #[.int .i64 ((unH (takeH cf (bs.take 5))).g), .int .i64 ((unH (takeH cf (bs.take 5))).v), .int .i64 ((unH (takeH cf (bs.take 5))).c), .int .i64 ((unH (takeH cf (bs.take 5))).p), .int .i64 ((unH (takeH cf (bs.take 5))).l)]), (39, .int .i64 0)] (by kernel_rfl) rfl ?_
  have hzl11 := ho1.lt
  have hzl12 := ho2.lt
  refine VL_box (d := 10) (t := 40) (c := #[.int .i64 0, .int .i64 0, .int .i64 0, .int .i64 0, .int .i64 0]) (by kernel_rfl) (by kernel_rfl) ?_
  intro b3 w7 hn3
  replace hS := Step.trans hS (Step.weak (hn3.step No))
  replace hA := hA.no (hn3.step No)
  replace ho1 := ho1.no (hn3.step No)
  replace ho2 := ho2.no (hn3.step No)
  have ho6 := hn3.own
  have hzhn3 := hn3.size
  have hqhn3 := hn3.eqb
  refine VL_store (b := b3) (o := 0) (vs := [.int .i64 ((unH (takeH cf (bs.take 5))).g), .int .i64 ((unH (takeH cf (bs.take 5))).v), .int .i64 ((unH (takeH cf (bs.take 5))).c), .int .i64 ((unH (takeH cf (bs.take 5))).p), .int .i64 ((unH (takeH cf (bs.take 5))).l)]) (by kernel_rfl) (by kernel_rfl) ho6 (Nat.le_of_ble_eq_true (by kernel_rfl)) ?_
  intro w8 hw3
  replace hS := Step.transNew hS hw3.step (fun _ _ _ => by omega)
  replace hA := hA.own ho6 (by decide) hw3.step
  replace ho1 := ho1.step hw3.step (show ¬ b1 = b3 by omega)
  replace ho2 := ho2.step hw3.step (show ¬ b = b3 by omega)
  have ho7 : Own w8 b3 #[.int .i64 ((unH (takeH cf (bs.take 5))).g), .int .i64 ((unH (takeH cf (bs.take 5))).v), .int .i64 ((unH (takeH cf (bs.take 5))).c), .int .i64 ((unH (takeH cf (bs.take 5))).p), .int .i64 ((unH (takeH cf (bs.take 5))).l)] 40 := Own.cast hw3.own (by kernel_rfl)
  have hzhw3 := hw3.same
  refine VL_pure 9 [0, 6, 10] [(0, .slice (some ⟨sb, so, none⟩) 53 c), (6, .pointer (some ⟨b1, 0, none⟩)), (10, .pointer (some ⟨b3, 0, none⟩))] (by kernel_rfl) rfl ?_
  refine VL_end (by kernel_rfl) ?_
  refine VQ_next ?_
  refine VC_seq ?_
  have hs1 := drew_step w8
  have hs1z : w8.heap.size = w8.drew.heap.size := rfl
  refine VC_text [[], [], [1], [1, 2], [1, 2, 3], [0, 1, 2, 3, 4], [0, 1, 2, 3, 4, 5], [0, 1, 2, 3, 4, 5, 6]] 5 (fun x y => Step (fun k => w8.heap.size ≤ k) x y) [] [0, 1, 2, 3, 4] (by kernel_rfl) (by kernel_rfl) (by kernel_rfl) (by kernel_rfl) (fun x => Step.refl _ x) (fun h k => Step.trans h k) Step.weak ?_
  generalize w8.drew = w9 at hs1 hs1z ⊢
  replace hS := Step.trans hS (Step.weak hs1)
  replace hA := hA.no hs1
  replace ho1 := ho1.no hs1
  replace ho2 := ho2.no hs1
  replace ho7 := ho7.no hs1
  refine VT_load (d := 40) (t := 40) (a := ⟨b3, 0, none⟩) (v := .agg #[.int .i64 ((unH (takeH cf (bs.take 5))).g), .int .i64 ((unH (takeH cf (bs.take 5))).v), .int .i64 ((unH (takeH cf (bs.take 5))).c), .int .i64 ((unH (takeH cf (bs.take 5))).p), .int .i64 ((unH (takeH cf (bs.take 5))).l)]) (by kernel_rfl) (by kernel_rfl) ?_ ?_
  ·intro w10 hr1
   replace ho7 := ho7.step hr1 (by (try simp only); omega)
   exact (Loads.ownL ho7 (n := 5) (by kernel_rfl) (by kernel_rfl) (by kernel_rfl))
  refine VT_pures 1 (kn' := [(1, .slice (some ⟨sb, so, none⟩) 53 c), (0, .agg #[.int .i64 ((unH (takeH cf (bs.take 5))).g), .int .i64 ((unH (takeH cf (bs.take 5))).v), .int .i64 ((unH (takeH cf (bs.take 5))).c), .int .i64 ((unH (takeH cf (bs.take 5))).p), .int .i64 ((unH (takeH cf (bs.take 5))).l)])]) (by kernel_rfl) ?_
  obtain ⟨so1, hso1⟩ : ∃ x, (if c = 5 then so else so + 5 * 1) = x := ⟨_, rfl⟩
  refine VT_slice (d := 42) (b := sb) (o := so) (sz := 1) (len := 53) (cap := c) (lo := (some 5)) (hi := none) (mx := none) (by kernel_rfl) (by kernel_rfl) (fun h => by first | exact absurd rfl h | exact (fun h => by cases h)) 5 53 c rfl rfl rfl (by omega) (by omega) (by omega) so1 hso1 48 (by omega) (c - 5) (by omega) ?_
  have hsl2 := Sl.cutI (H := 53) (SlX.sl hA) hso1 (by omega)
  refine VT_stap (d := 43) (A := some ⟨sb, so1, none⟩) (len := 48) (N := 48) (by kernel_rfl) (by kernel_rfl) (by omega) ?_
  refine VT_load (d := 44) (t := 43) (a := ⟨sb, so1, none⟩) (v := .agg (iA .u8 ((bs.drop 5).take (53 - 5)))) (by kernel_rfl) (by kernel_rfl) ?_ ?_
  ·intro w11 hr2
   replace hsl2 := hsl2.keepB hr2 (by (try simp only); omega)
   exact (Loads.slArr0 (N := 48) hsl2 (by kernel_rfl) THd3aa)
  refine VT_end ?_
  intro w12 hs2
  replace hS := Step.trans hS (Step.weak hs2)
  replace ho1 := ho1.no hs2
  replace ho2 := ho2.no hs2
  refine VL_keep [6, 40, 44] [(6, .pointer (some ⟨b1, 0, none⟩)), (40, .agg #[.int .i64 ((unH (takeH cf (bs.take 5))).g), .int .i64 ((unH (takeH cf (bs.take 5))).v), .int .i64 ((unH (takeH cf (bs.take 5))).c), .int .i64 ((unH (takeH cf (bs.take 5))).p), .int .i64 ((unH (takeH cf (bs.take 5))).l)]), (44, .agg (iA .u8 ((bs.drop 5).take (53 - 5))))] (by kernel_rfl) ?_
  refine VL_b2 (d := 45) (t := 45) (x := .agg #[.int .i64 ((unH (takeH cf (bs.take 5))).g), .int .i64 ((unH (takeH cf (bs.take 5))).v), .int .i64 ((unH (takeH cf (bs.take 5))).c), .int .i64 ((unH (takeH cf (bs.take 5))).p), .int .i64 ((unH (takeH cf (bs.take 5))).l)]) (y := .agg (iA .u8 ((bs.drop 5).take (53 - 5)))) (v := .agg (cellA (unH (takeH cf (bs.take 5))) ((bs.drop 5).take (53 - 5)))) (by kernel_rfl) (by kernel_rfl) (fun w9 => run_build_cell (h := (unH (takeH cf (bs.take 5)))) (ps := ((bs.drop 5).take (53 - 5))) THd3aa w9) ?_
  refine VL_storeC (b := b1) (h' := (unH (takeH cf (bs.take 5)))) (ps := ((bs.drop 5).take (53 - 5))) (by kernel_rfl) (by kernel_rfl) ho1 THd3aa (List.length_replicate ..) ?_
  intro w13 hw4
  replace hS := Step.transNew hS hw4.step (fun _ _ _ => by omega)
  replace ho2 := ho2.step hw4.step (show ¬ b = b1 by omega)
  have ho8 : Own w13 b1 (cellA (unH (takeH cf (bs.take 5))) ((bs.drop 5).take (53 - 5))) 45 := hw4.own
  refine VL_pure 8 [6, 7] [(6, .pointer (some ⟨b1, 0, none⟩)), (7, .int .i64 0)] (by kernel_rfl) rfl ?_
  refine VL_end (by kernel_rfl) ?_
  refine VQ_next ?_
  refine VC_ret ?_
  refine VQ_retC1T1 (T := 45) (.agg (cellA (unH (takeH cf (bs.take 5))) ((bs.drop 5).take (53 - 5)))) (.int .i64 0) (.inr rfl) rfl rfl rfl (Loads.cellC ho8 THd3aa (by kernel_rfl)) ?_
  obtain ⟨e1, e2, e3, e4⟩ := parse_ok (cf := cf) (bs := bs) (by omega) (by assumption)
  exact ⟨by rw [e1, e2, e3, show (bs.drop 5).take (53 - 5) = bs.drop 5 from List.take_of_length_le (by rw [List.length_drop]; omega)], ⟨_, _, Own.cast ho2 (by rw [e4])⟩, hS⟩

theorem lkparse_any (b : Nat) (r d : Int) (cf : Bool) (gp : Nat) (dn : Bool) (A : Option Addr) (n c : Nat) (X : Nat → Prop) (bs : List Int) (w : World) (hn : bs.length = n) (hA : SlX w 5 X A (iL .u8 bs)) (hb : Bytes bs) (hnc : n ≤ c) (ht : Own w b #[.int .i64 r, .int .i64 d, .bool cf, .pointer (some ⟨gp, 0, none⟩), .bool dn] 134) : CV Tryz.prog 25 #[.slice A n c, .pointer (some ⟨b, 0, none⟩), .bool false] w (fun x w1 => x = .tuple #[.agg (cellA (parseH cf bs) (parseP cf bs)), .int .i64 (parseE cf bs)] ∧ (∃ r' d', Own w1 b #[.int .i64 r', .int .i64 d', .bool (parseC cf bs), .pointer (some ⟨gp, 0, none⟩), .bool dn] 134) ∧ Step (Just b) w w1) := by
  by_cases h : n = 53
  · subst h; exact lkparse_53 b r d cf gp dn A c X bs w hn hA hb hnc ht
  · exact lkparse_no b r d cf gp dn A n c X bs w hn hA hb hnc ht (by omega)
end Go.Proofs.YtcablikikkmfjaaGreat
end

section
/- Layer 22: a cell is sent; a cell of a way. -/
set_option linter.unusedVariables false
set_option linter.unusedSimpArgs false
set_option maxRecDepth 100000
set_option maxHeartbeats 4000000
namespace Go.Proofs.YtcablikikkmfjaaGreat
open Go.Vc Go.RowKit
theorem TPl6aa {P : Prop} (h : P := by intro i hi; first | exact hi.elim | exact .inl hi | ((try simp only at hi ⊢); omega)) : P := h
theorem TPl6ab {P : Prop} (h : P := by rw [wrap_i64 _ (by omega) (by omega)]; rfl) : P := h
theorem TPl6ac {P : Prop} (h : P := by unfold verN setC; rw [List.length_map]) : P := h
theorem TPl6ad {P : Prop} (h : P := by rw [h.W]; exact List.mem_map_of_mem z1) : P := h

/-- One cell that is sent: a new block of one. -/
def Out1 (w w1 : World) (x : Value) (q : Int) (bs : List Int) : Prop := ∃ b A c, x = .slice (some ⟨b, 0, none⟩) 1 1 ∧ Own w1 b #[.int .i64 q, .slice A 53 c] 67 ∧ w.heap.size ≤ b ∧ Rw w1 w.heap.size 5 A 53 c (iL .u8 bs)
theorem send_yes (q v c pt l : Int) (ps : List Int) (w : World) (hps : ps.length = 48) (hok : hdOk ⟨0, v, c, pt, l⟩ = true) :
  CV Tryz.prog 82 #[.agg #[.int .i64 q, .int .i64 v, .int .i64 c], .int .i64 pt, .int .i64 l, .agg (iA .u8 ps)] w (fun x w1 => ∃ A' c', x = .agg #[.int .i64 q, .slice A' 53 c'] ∧ Rw w1 w.heap.size 5 A' 53 c' (iL .u8 (buildL ⟨0, v, c, pt, l⟩ ps)) ∧ Step No w w1) := by
 have hS : Step No w w := Step.refl _ _
 refine CV_enter Tryz.f82 _ 28 [(0, .agg #[.int .i64 q, .int .i64 v, .int .i64 c]), (1, .int .i64 pt), (2, .int .i64 l), (3, .agg (iA .u8 ps))] Tryz.func82 rfl rfl (by kernel_rfl) rfl ?_
 refine VC_seq ?_
 refine VC_region ?_
 refine VL_box (d := 4) (t := 34) (c := #[.int .i64 q, .int .i64 v, .int .i64 c]) (by kernel_rfl) (by kernel_rfl) ?_
 intro b1 w1 hn1
 replace hS := Step.trans hS (hn1.step No)
 have ho1 := hn1.own
 have hzhn1 := hn1.size
 have hqhn1 := hn1.eqb
 refine VL_box (d := 7) (t := 43) (c := iA .u8 ps) (by kernel_rfl) (by kernel_rfl) ?_
 intro b2 w2 hn2
 replace hS := Step.trans hS (hn2.step No)
 replace ho1 := ho1.no (hn2.step No)
 have ho2 := hn2.own
 have hzhn2 := hn2.size
 have hqhn2 := hn2.eqb
 refine VL_box (d := 8) (t := 67) (c := #[.int .i64 0, .slice none 0 0]) (by kernel_rfl) (by kernel_rfl) ?_
 intro b3 w3 hn3
 replace hS := Step.trans hS (hn3.step No)
 replace ho1 := ho1.no (hn3.step No)
 replace ho2 := ho2.no (hn3.step No)
 have ho3 := hn3.own
 have hzhn3 := hn3.size
 have hqhn3 := hn3.eqb
 refine VL_end (by kernel_rfl) ?_
 refine VQ_next ?_
 refine VC_seq ?_
 refine VC_region ?_
 refine VL_pure 1 [1, 2, 4, 7, 8, 12] [(1, .int .i64 pt), (2, .int .i64 l), (4, .pointer (some ⟨b1, 0, none⟩)), (7, .pointer (some ⟨b2, 0, none⟩)), (8, .pointer (some ⟨b3, 0, none⟩)), (12, .pointer (some ⟨b1, 1, none⟩))] (by kernel_rfl) rfl ?_
 refine VL_load (d := 13) (t := 3) (a := ⟨b1, 1, none⟩) (v := .int .i64 v) (by kernel_rfl) (by kernel_rfl) (Loads.own1 ho1 (by kernel_rfl) (by rfl)) ?_
 refine VL_pure 3 [1, 2, 4, 7, 8, 13, 14] [(1, .int .i64 pt), (2, .int .i64 l), (4, .pointer (some ⟨b1, 0, none⟩)), (7, .pointer (some ⟨b2, 0, none⟩)), (8, .pointer (some ⟨b3, 0, none⟩)), (13, .int .i64 v), (14, .pointer (some ⟨b1, 2, none⟩))] (by kernel_rfl) rfl ?_
 refine VL_load (d := 15) (t := 3) (a := ⟨b1, 2, none⟩) (v := .int .i64 c) (by kernel_rfl) (by kernel_rfl) (Loads.own1 ho1 (by kernel_rfl) (by rfl)) ?_
 refine VL_pure 7 [4, 7, 8, 18] [(4, .pointer (some ⟨b1, 0, none⟩)), (7, .pointer (some ⟨b2, 0, none⟩)), (8, .pointer (some ⟨b3, 0, none⟩)), (18, .agg #[.int .i64 0, .int .i64 v, .int .i64 c, .int .i64 pt, .int .i64 l])] (by kernel_rfl) rfl ?_
 refine VL_load (d := 19) (t := 43) (a := ⟨b2, 0, none⟩) (v := .agg (iA .u8 ps)) (by kernel_rfl) (by kernel_rfl) (Loads.arr (N := 48) ho2 (by kernel_rfl) (by (try simp only [List.length_set, List.length_append, List.length_map, List.length_replicate, List.length_cons, List.length_nil, List.length_take, List.length_drop, List.length_range]) <;> omega)) ?_
 refine VL_b2 (d := 20) (t := 45) (x := .agg #[.int .i64 0, .int .i64 v, .int .i64 c, .int .i64 pt, .int .i64 l]) (y := .agg (iA .u8 ps)) (v := .agg (cellA (⟨0, v, c, pt, l⟩ : Hd) ps)) (by kernel_rfl) (by kernel_rfl) (fun w9 => run_build_cell (h := (⟨0, v, c, pt, l⟩ : Hd)) (ps := ps) (by (try simp only [List.length_set, List.length_append, List.length_map, List.length_replicate, List.length_cons, List.length_nil, List.length_take, List.length_drop, List.length_range]) <;> omega) w9) ?_
 refine VL_call (d := 21) (f := 19) (args := #[.agg (cellA (⟨0, v, c, pt, l⟩ : Hd) ps), .bool false]) (by kernel_rfl) (by kernel_rfl) (by kernel_rfl) Tryz.call19 (build_yes (⟨0, v, c, pt, l⟩ : Hd) ps _ (by (try simp only [List.length_set, List.length_append, List.length_map, List.length_replicate, List.length_cons, List.length_nil, List.length_take, List.length_drop, List.length_range]) <;> omega) hok) ?_
 rintro _ w4 ⟨A1, c1, rfl, hr1, hc1⟩
 replace hS := Step.trans hS hc1
 replace ho1 := ho1.no hc1
 replace ho3 := ho3.no hc1
 obtain ⟨base1, hbase1E⟩ : ∃ x, x = w3.heap.size := ⟨_, rfl⟩
 rw [← hbase1E] at hr1
 refine VL_pure 15 [4, 8, 9] [(4, .pointer (some ⟨b1, 0, none⟩)), (8, .pointer (some ⟨b3, 0, none⟩)), (9, .slice A1 53 c1)] (by kernel_rfl) rfl ?_
 refine VL_end (by kernel_rfl) ?_
 refine VQ_next ?_
 refine VC_seq ?_
 refine VC_region ?_
 refine VL_pure 1 [8, 9, 24] [(8, .pointer (some ⟨b3, 0, none⟩)), (9, .slice A1 53 c1), (24, .pointer (some ⟨b1, 0, none⟩))] (by kernel_rfl) rfl ?_
 refine VL_load (d := 25) (t := 3) (a := ⟨b1, 0, none⟩) (v := .int .i64 q) (by kernel_rfl) (by kernel_rfl) (Loads.own1 ho1 (by kernel_rfl) (by rfl)) ?_
 refine VL_pure 4 [8, 27] [(8, .pointer (some ⟨b3, 0, none⟩)), (27, .agg #[.int .i64 q, .slice A1 53 c1])] (by kernel_rfl) rfl ?_
 refine VL_store (b := b3) (o := 0) (vs := [.int .i64 q, .slice A1 53 c1]) (by kernel_rfl) (by kernel_rfl) ho3 (Nat.le_of_ble_eq_true (by kernel_rfl)) ?_
 intro w5 hw1
 replace hS := Step.transNew hS hw1.step (fun _ _ _ => by omega)
 replace hr1 := hr1.step hw1.step (fun k hk (hF : k = b3) => by omega)
 have ho4 : Own w5 b3 #[.int .i64 q, .slice A1 53 c1] 67 := Own.cast hw1.own (by kernel_rfl)
 refine VL_end (by kernel_rfl) ?_
 refine VQ_next ?_
 refine VC_ret ?_
 refine VQ_retC1 (T := 67) (.agg #[.int .i64 q, .slice A1 53 c1]) (.inr rfl) rfl rfl (Loads.ownL ho4 (n := 2) (by kernel_rfl) (by kernel_rfl) (by kernel_rfl)) ?_
 exact ⟨_, _, rfl, Rw.low hr1 (by omega), hS⟩

theorem pass_drop0 (p lo : Nat) (X XB : Nat → Prop) (g : PlG) (st : PS) (n : Nat) (w : World) (q v c : Int) (z : Wi) (hz : findWi g.wi q v c = some z) (hh : Hd) (ps : List Int) (hps : ps.length = 48) (hk : hdOk hh = true) (hn : n < 1152921504606846976) (hv : verV st.L z.y.op z.y.ov z.y.oc st.now hh.l = 3) (h : PnX w p X XB lo g st n)  :
  CV Tryz.prog 70 #[.pointer (some ⟨p, 0, none⟩), .pointer (some ⟨z.wb, 0, none⟩), .agg (cellA hh ps), .bool false] w (fun x w1 => x = .slice none 0 0 ∧ PNext w p X XB lo { st with L := verN st.L z.y.op z.y.ov z.y.oc st.now hh.l, cn := bump st.cn 8, W := setW st.W q v c (setAl (z.y.al)) } (n + 1) w1) := by
 obtain ⟨z1, z2, z3, z4⟩ := findWi_some hz
 obtain ⟨how, hoa⟩ := h.s.way z z1
 have hS : Step (passF g p z.ab) w w := Step.refl _ _
 have hp := h.own
 have hpi := h.pi
 have hn0 := h.s.node
 have hNX : ∀ k, g.Xn k → k < w.heap.size := fun k hk => hn0.ltX hk
 have hNp : ¬ g.Xn p := fun e => h.n_p (.inl e)
 have t1 := h.t_p
 have t5 := h.s.t_ab z1
 have t6 := h.s.t_wb z1
 have hNw : ¬ g.Xn z.wb := fun e => by have := h.s.t_nd e; omega
 have hNa : ¬ g.Xn z.ab := fun e => by have := h.s.t_nd e; omega
 have hpa : p ≠ z.ab := fun e => by rw [e] at t1; omega
 have hwa : z.wb ≠ z.ab := fun e => by rw [e] at t6; omega
 refine CV_enter Tryz.f70 _ 88 [(0, .pointer (some ⟨p, 0, none⟩)), (1, .pointer (some ⟨z.wb, 0, none⟩)), (2, .agg (cellA hh ps)), (3, .bool false)] Tryz.func70 rfl rfl (by kernel_rfl) rfl ?_
 refine VC_seq ?_
 refine VC_region ?_
 refine VL_box (d := 6) (t := 45) (c := (cellA hh ps)) (by kernel_rfl) (by kernel_rfl) ?_
 intro b1 w1 hn1
 replace hS := passF_no hS (hn1.step No)
 replace hp := hp.no (hn1.step No)
 replace how := how.no (hn1.step No)
 replace hoa := hoa.no (hn1.step No)
 replace hn0 := NdP.no hn0 (hn1.step No)
 have ho1 := hn1.own
 have hzhn1 := hn1.size
 have hqhn1 := hn1.eqb
 refine VL_pure 2 [0, 1, 3, 6] [(0, .pointer (some ⟨p, 0, none⟩)), (1, .pointer (some ⟨z.wb, 0, none⟩)), (3, .bool false), (6, .pointer (some ⟨b1, 0, none⟩))] (by kernel_rfl) rfl ?_
 refine VL_end (by kernel_rfl) ?_
 refine VQ_next ?_
 refine VC_seq ?_
 refine VC_region ?_
 refine VL_pure 2 [0, 1, 3, 6, 13] [(0, .pointer (some ⟨p, 0, none⟩)), (1, .pointer (some ⟨z.wb, 0, none⟩)), (3, .bool false), (6, .pointer (some ⟨b1, 0, none⟩)), (13, .pointer (some ⟨b1, 4, none⟩))] (by kernel_rfl) rfl ?_
 refine VL_load (d := 14) (t := 3) (a := ⟨b1, 4, none⟩) (v := .int .i64 hh.l) (by kernel_rfl) (by kernel_rfl) (Loads.cellF (i := 4) ho1 (by kernel_rfl) (by decide) rfl) ?_
 refine VL_pure 4 [0, 1, 3, 6, 9] [(0, .pointer (some ⟨p, 0, none⟩)), (1, .pointer (some ⟨z.wb, 0, none⟩)), (3, .bool false), (6, .pointer (some ⟨b1, 0, none⟩)), (9, .int .i64 hh.l)] (by kernel_rfl) rfl ?_
 refine VL_end (by kernel_rfl) ?_
 refine VQ_next ?_
 refine VC_seq ?_
 refine VC_seq ?_
 have hs1 := drew_step w1
 have hs1z : w1.heap.size = w1.drew.heap.size := rfl
 refine VC_text [[], [0], [0, 1], [0, 1, 2], [], [4], [4, 5], [4, 5, 6], [], [8], [8, 9], [8, 9, 10], [], [12], [12, 13], [0, 1, 2, 3, 4, 5, 6, 7, 8, 9, 10, 11, 12, 13, 14], [0, 1, 2, 3, 4, 5, 6, 7, 8, 9, 10, 11, 12, 13, 14, 15], [0, 1, 2, 3, 4, 5, 6, 7, 8, 9, 10, 11, 12, 13, 14, 15, 16], [0, 1, 2, 3, 4, 5, 6, 7, 8, 9, 10, 11, 12, 13, 14, 15, 16], [0, 1, 2, 3, 4, 5, 6, 7, 8, 9, 10, 11, 12, 13, 14, 15, 16, 17], [0, 1, 2, 3, 4, 5, 6, 7, 8, 9, 10, 11, 12, 13, 14, 15, 16, 17, 18, 19]] 20 (fun x y => Step (fun k => g.Xn k ∨ w1.heap.size ≤ k) x y) [15] [0, 1, 2, 3, 4, 5, 6, 7, 8, 9, 10, 11, 12, 13, 14, 15, 16, 17, 18, 19] (by kernel_rfl) (by kernel_rfl) (by kernel_rfl) (by kernel_rfl) (fun x => Step.refl _ x) (fun h k => Step.trans h k) Step.weak ?_
 generalize w1.drew = w2 at hs1 hs1z ⊢
 replace hS := passF_no hS hs1
 replace hp := hp.no hs1
 replace how := how.no hs1
 replace hoa := hoa.no hs1
 replace hn0 := NdP.no hn0 hs1
 replace ho1 := ho1.no hs1
 refine VT_pures 3 (kn' := [(2, .pointer (some ⟨p, 0, none⟩)), (1, .pointer (some ⟨p, 0, none⟩)), (0, .pointer (some ⟨p, 0, none⟩))]) (by kernel_rfl) ?_
 refine VT_load (d := 19) (t := 121) (a := ⟨p, 0, none⟩) (v := .pointer (some ⟨g.nd, 0, none⟩)) (by kernel_rfl) (by kernel_rfl) ?_ ?_
 ·intro w3 hr1
  have hcut1 := Step.cut hr1 (by omega)
  replace hp := hp.step hcut1 hNp
  exact (Loads.own1 hp (by kernel_rfl) (by rfl))
 refine VT_pures 3 (kn' := [(6, .pointer (some ⟨z.wb, 3, none⟩)), (5, .pointer (some ⟨z.wb, 0, none⟩)), (4, .pointer (some ⟨z.wb, 0, none⟩)), (3, .pointer (some ⟨g.nd, 0, none⟩)), (2, .pointer (some ⟨p, 0, none⟩)), (1, .pointer (some ⟨p, 0, none⟩)), (0, .pointer (some ⟨p, 0, none⟩))]) (by kernel_rfl) ?_
 refine VT_load (d := 23) (t := 34) (a := ⟨z.wb, 3, none⟩) (v := .agg #[.int .i64 z.y.op, .int .i64 z.y.ov, .int .i64 z.y.oc]) (by kernel_rfl) (by kernel_rfl) ?_ ?_
 ·intro w4 hr2
  have hcut2 := Step.cut hr2 (by omega)
  replace how := how.step hcut2 hNw
  exact (Loads.ownL how (n := 3) (by kernel_rfl) (by kernel_rfl) (by kernel_rfl))
 refine VT_pures 3 (kn' := [(10, .pointer (some ⟨p, 10, none⟩)), (9, .pointer (some ⟨p, 0, none⟩)), (8, .pointer (some ⟨p, 0, none⟩)), (7, .agg #[.int .i64 z.y.op, .int .i64 z.y.ov, .int .i64 z.y.oc]), (6, .pointer (some ⟨z.wb, 3, none⟩)), (5, .pointer (some ⟨z.wb, 0, none⟩)), (4, .pointer (some ⟨z.wb, 0, none⟩)), (3, .pointer (some ⟨g.nd, 0, none⟩)), (2, .pointer (some ⟨p, 0, none⟩)), (1, .pointer (some ⟨p, 0, none⟩)), (0, .pointer (some ⟨p, 0, none⟩))]) (by kernel_rfl) ?_
 refine VT_load (d := 27) (t := 3) (a := ⟨p, 10, none⟩) (v := .int .i64 st.now) (by kernel_rfl) (by kernel_rfl) ?_ ?_
 ·intro w5 hr3
  have hcut3 := Step.cut hr3 (by omega)
  replace hp := hp.step hcut3 hNp
  exact (Loads.own1 hp (by kernel_rfl) (by rfl))
 refine VT_pures 2 (kn' := [(13, .pointer (some ⟨b1, 4, none⟩)), (12, .pointer (some ⟨b1, 0, none⟩)), (11, .int .i64 st.now), (10, .pointer (some ⟨p, 10, none⟩)), (9, .pointer (some ⟨p, 0, none⟩)), (8, .pointer (some ⟨p, 0, none⟩)), (7, .agg #[.int .i64 z.y.op, .int .i64 z.y.ov, .int .i64 z.y.oc]), (6, .pointer (some ⟨z.wb, 3, none⟩)), (5, .pointer (some ⟨z.wb, 0, none⟩)), (4, .pointer (some ⟨z.wb, 0, none⟩)), (3, .pointer (some ⟨g.nd, 0, none⟩)), (2, .pointer (some ⟨p, 0, none⟩)), (1, .pointer (some ⟨p, 0, none⟩)), (0, .pointer (some ⟨p, 0, none⟩))]) (by kernel_rfl) ?_
 refine VT_load (d := 30) (t := 3) (a := ⟨b1, 4, none⟩) (v := .int .i64 hh.l) (by kernel_rfl) (by kernel_rfl) ?_ ?_
 ·intro w6 hr4
  have hcut4 := Step.cut hr4 (by omega)
  replace ho1 := ho1.step hcut4 (fun h8 => by have h7 := hNX _ h8; omega)
  exact (Loads.cellF (i := 4) ho1 (by kernel_rfl) (by decide) rfl)
 refine VT_chain (by kernel_rfl) ?_
 intro w7 hs2
 have hzhs2 := hs2.size
 replace hS := passF_no hS hs2
 replace hp := hp.no hs2
 replace hoa := hoa.no hs2
 replace hn0 := NdP.no hn0 hs2
 refine VTc_call (d := 31) (f := 125) (args := #[.pointer (some ⟨g.nd, 0, none⟩), .agg #[.int .i64 z.y.op, .int .i64 z.y.ov, .int .i64 z.y.oc], .int .i64 st.now, .int .i64 hh.l]) (by kernel_rfl) (by kernel_rfl) (by kernel_rfl) Tryz.call125 (nverdict hn0 z.y.op z.y.ov z.y.oc st.now hh.l) ?_ ?_
 ·rintro _ w8 ⟨rfl, X9, hn1, hX9, hc1⟩
  exact Step.mono hc1 TPl6aa
 rintro _ w8 ⟨rfl, X9, hn1, hX9, hc1⟩
 replace hS := Step.trans hS (Step.mono hc1 (fun i9 h9 => .inl h9))
 replace hp := hp.step hc1 hNp
 replace hoa := hoa.step hc1 hNa
 refine VT_pures 4 (kn' := [(19, .int .i64 (verV st.L z.y.op z.y.ov z.y.oc st.now hh.l)), (18, .bool ((findC st.L z.y.op z.y.ov z.y.oc).isSome)), (17, .int .i64 (verV st.L z.y.op z.y.ov z.y.oc st.now hh.l)), (16, .tuple #[.int .i64 (verV st.L z.y.op z.y.ov z.y.oc st.now hh.l), .bool ((findC st.L z.y.op z.y.ov z.y.oc).isSome)]), (15, .tuple #[.int .i64 (verV st.L z.y.op z.y.ov z.y.oc st.now hh.l), .bool ((findC st.L z.y.op z.y.ov z.y.oc).isSome)]), (14, .int .i64 hh.l), (13, .pointer (some ⟨b1, 4, none⟩)), (12, .pointer (some ⟨b1, 0, none⟩)), (11, .int .i64 st.now), (10, .pointer (some ⟨p, 10, none⟩)), (9, .pointer (some ⟨p, 0, none⟩)), (8, .pointer (some ⟨p, 0, none⟩)), (7, .agg #[.int .i64 z.y.op, .int .i64 z.y.ov, .int .i64 z.y.oc]), (6, .pointer (some ⟨z.wb, 3, none⟩)), (5, .pointer (some ⟨z.wb, 0, none⟩)), (4, .pointer (some ⟨z.wb, 0, none⟩)), (3, .pointer (some ⟨g.nd, 0, none⟩)), (2, .pointer (some ⟨p, 0, none⟩)), (1, .pointer (some ⟨p, 0, none⟩)), (0, .pointer (some ⟨p, 0, none⟩))]) (by kernel_rfl) ?_
 refine VT_end ?_
 intro w9 hs3
 replace hS := passF_no hS hs3
 replace hp := hp.no hs3
 replace hoa := hoa.no hs3
 replace hn1 := NdP.no hn1 hs3
 refine VL_keep [0, 1, 3, 6, 9, 33, 10] [(0, .pointer (some ⟨p, 0, none⟩)), (1, .pointer (some ⟨z.wb, 0, none⟩)), (3, .bool false), (6, .pointer (some ⟨b1, 0, none⟩)), (9, .int .i64 hh.l), (33, .bool ((findC st.L z.y.op z.y.ov z.y.oc).isSome)), (10, .int .i64 (verV st.L z.y.op z.y.ov z.y.oc st.now hh.l))] (by kernel_rfl) ?_
 refine VL_pure 21 [0, 1, 3, 6, 9, 10] [(0, .pointer (some ⟨p, 0, none⟩)), (1, .pointer (some ⟨z.wb, 0, none⟩)), (3, .bool false), (6, .pointer (some ⟨b1, 0, none⟩)), (9, .int .i64 hh.l), (10, .int .i64 (verV st.L z.y.op z.y.ov z.y.oc st.now hh.l))] (by kernel_rfl) rfl ?_
 refine VL_end (by kernel_rfl) ?_
 refine VQ_next ?_
 refine VC_seq ?_
 refine VC_region ?_
 refine VL_pure 1 [0, 1, 3, 6, 9, 34] [(0, .pointer (some ⟨p, 0, none⟩)), (1, .pointer (some ⟨z.wb, 0, none⟩)), (3, .bool false), (6, .pointer (some ⟨b1, 0, none⟩)), (9, .int .i64 hh.l), (34, .int .i64 (verV st.L z.y.op z.y.ov z.y.oc st.now hh.l))] (by kernel_rfl) rfl ?_
 refine VL_end (by kernel_rfl) ?_
 refine VQ_next ?_
 refine VC_block ?_
 refine VC_seq ?_
 refine VC_region ?_
 refine VL_pure 2 [0, 1, 3, 6, 9, 34, 44] [(0, .pointer (some ⟨p, 0, none⟩)), (1, .pointer (some ⟨z.wb, 0, none⟩)), (3, .bool false), (6, .pointer (some ⟨b1, 0, none⟩)), (9, .int .i64 hh.l), (34, .int .i64 (verV st.L z.y.op z.y.ov z.y.oc st.now hh.l)), (44, .bool ((verV st.L z.y.op z.y.ov z.y.oc st.now hh.l) == 3))] (by kernel_rfl) rfl ?_
 refine VL_end (by kernel_rfl) ?_
 refine VQ_next ?_
 refine VC_is (b := (verV st.L z.y.op z.y.ov z.y.oc st.now hh.l) == 3) true (by kernel_rfl) (beq_iff_eq.2 hv) ?_
 refine VC_ite_true ?_
 refine VC_seq ?_
 have hs4 := drew_step w9
 have hs4z : w9.heap.size = w9.drew.heap.size := rfl
 refine VC_text [[], [0], [0, 1], [0, 1, 2], [0, 1, 2, 3], [0, 1, 2, 3, 4], [0], [0, 6], [0, 1, 2, 3, 4, 5, 6, 7], [0, 1, 2, 3, 4, 5, 6, 7, 8]] 8 (fun x y => Step (fun k => w9.heap.size ≤ k) x y) [] [0, 1, 2, 3, 4, 5, 6, 7] (by kernel_rfl) (by kernel_rfl) (by kernel_rfl) (by kernel_rfl) (fun x => Step.refl _ x) (fun h k => Step.trans h k) Step.weak ?_
 have hzl15 := hp.lt
 generalize w9.drew = w10 at hs4 hs4z ⊢
 replace hS := passF_no hS hs4
 replace hp := hp.no hs4
 replace hoa := hoa.no hs4
 replace hn1 := NdP.no hn1 hs4
 refine VT_pures 3 (kn' := [(2, .pointer (some ⟨p, 11, none⟩)), (1, .pointer (some ⟨p, 0, none⟩)), (0, .pointer (some ⟨p, 0, none⟩))]) (by kernel_rfl) ?_
 refine VT_index (d := 49) (b := p) (o := 11) (len := 9) (sz := 1) (mm := 8) (by kernel_rfl) (by kernel_rfl) 8 (by rfl) (by omega) 19 (by omega) ?_
 refine VT_load (d := 50) (t := 3) (a := ⟨p, 19, none⟩) (v := .int .i64 (st.cn 8)) (by kernel_rfl) (by kernel_rfl) ?_ ?_
 ·intro w11 hr5
  replace hp := hp.step hr5 (by (try simp only); omega)
  exact (Loads.own1 hp (by kernel_rfl) (by rfl))
 refine VT_pures 3 (kn' := [(7, .pointer (some ⟨p, 11, none⟩)), (6, .pointer (some ⟨p, 0, none⟩)), (5, .int .i64 (IntKind.wrap .i64 ((st.cn 8) + 1))), (4, .int .i64 (st.cn 8)), (3, .pointer (some ⟨p, 19, none⟩)), (2, .pointer (some ⟨p, 11, none⟩)), (1, .pointer (some ⟨p, 0, none⟩)), (0, .pointer (some ⟨p, 0, none⟩))]) (by kernel_rfl) ?_
 refine VT_end ?_
 intro w12 hs5
 replace hS := passF_no hS hs5
 replace hp := hp.no hs5
 replace hoa := hoa.no hs5
 replace hn1 := NdP.no hn1 hs5
 refine VL_keep [51, 53] [(51, .int .i64 (IntKind.wrap .i64 ((st.cn 8) + 1))), (53, .pointer (some ⟨p, 11, none⟩))] (by kernel_rfl) ?_
 refine VL_index (d := 54) (b := p) (o := 11) (len := 9) (sz := 1) (m := 8) (by kernel_rfl) (by kernel_rfl) 8 (by rfl) (by omega) 19 (by omega) ?_
 refine VL_store (b := p) (o := 19) (vs := [.int .i64 (IntKind.wrap .i64 ((st.cn 8) + 1))]) (by kernel_rfl) (by kernel_rfl) hp (Nat.le_of_ble_eq_true (by kernel_rfl)) ?_
 intro w13 hw1
 replace hS := Step.trans hS (Step.mono hw1.step (fun i9 h9 => .inr (.inl h9)))
 replace hoa := hoa.step hw1.step (show ¬ z.ab = p by omega)
 replace hn1 := NdP.blk hn1 hp (by decide) hw1.step
 have ho2 : Own w13 p #[.pointer (some ⟨g.nd, 0, none⟩), .slice g.la st.lk.length g.lc, .pointer (some ⟨g.tb, 0, none⟩), .map (some g.wm), .map (some g.cm), .int .i64 st.tm.s, .int .i64 st.tm.c, .int .i64 st.tm.r, .int .i64 st.wait, .int .i64 ((g.next : Nat) : Int), .int .i64 st.now, .int .i64 (st.cn 0), .int .i64 (st.cn 1), .int .i64 (st.cn 2), .int .i64 (st.cn 3), .int .i64 (st.cn 4), .int .i64 (st.cn 5), .int .i64 (st.cn 6), .int .i64 (st.cn 7), .int .i64 (IntKind.wrap .i64 ((st.cn 8) + 1))] 129 := Own.cast hw1.own (by kernel_rfl)
 refine VL_end (by kernel_rfl) ?_
 refine VQ_next ?_
 refine VC_seq ?_
 refine VC_region ?_
 refine VL_pure 1 [8] [(8, .slice none 0 0)] (by kernel_rfl) rfl ?_
 refine VL_end (by kernel_rfl) ?_
 refine VQ_next ?_
 refine VC_ret ?_
 refine VQ_block_ret ?_
 refine VQ_then_ret ?_
 refine VQ_ret1 (.slice none 0 0) (.inr rfl) rfl rfl ?_
 have hcz := hpi.cn 8
 obtain ⟨oo1, oo2, oo3, oo4⟩ := h.out_ok z1
 have hX := h.passed (cn9 := bump st.cn 8) (al9 := z.y.al) hz hS (Own.cast ho2 TPl6ab) hn1 (fun q hq => (hX9 q hq).imp id (fun h9 => by omega)) TPl6ac (fun a b d => findC_setC (f := newR st.now hh.l) hn0.li.one (fun x => ⟨rfl, rfl, rfl⟩) a b d) (bump_le hpi.cn 8) hoa (hpi.als z.y TPl6ad)
 have hN : PNext w p X XB lo { st with L := verN st.L z.y.op z.y.ov z.y.oc st.now hh.l, cn := bump st.cn 8, W := setW st.W q v c (setAl (z.y.al)) } (n + 1) w13 := ⟨_, XB, ⟨_, hX⟩, fun k9 hk9 => by rcases hk9 with ⟨a, _⟩ | a; exact .inl a; exact (hX9 k9 a).imp (fun h9 => h.inX k9 (.inl h9)) (fun h9 => by omega), fun k9 hk9 => .inl hk9, Step.mono hS (fun k9 hk9 => by rcases hk9 with a | a | a; exact h.inX k9 (.inl a); rw [a]; exact h.inp.1; rw [a]; exact h.inX _ (.inr (.inr (.inr ⟨z, z1, .inr rfl⟩))))⟩
 exact ⟨rfl, hN⟩

theorem pass_tag0 (p lo : Nat) (X XB : Nat → Prop) (g : PlG) (st : PS) (n : Nat) (w : World) (q v c : Int) (z : Wi) (hz : findWi g.wi q v c = some z) (hh : Hd) (ps : List Int) (hps : ps.length = 48) (hk : hdOk hh = true) (hn : n < 1152921504606846976) (hv : verV st.L z.y.op z.y.ov z.y.oc st.now hh.l = 2) (h : PnX w p X XB lo g st n)  :
  CV Tryz.prog 70 #[.pointer (some ⟨p, 0, none⟩), .pointer (some ⟨z.wb, 0, none⟩), .agg (cellA hh ps), .bool false] w (fun x w1 => Out1 w w1 x z.y.op (buildL ⟨0, z.y.ov, z.y.oc, hh.p, 1⟩ ps) ∧ PNext w p X XB lo { st with L := verN st.L z.y.op z.y.ov z.y.oc st.now hh.l, cn := bump st.cn 7, W := setW st.W q v c (setAl (z.y.al)) } (n + 1) w1) := by
 obtain ⟨z1, z2, z3, z4⟩ := findWi_some hz
 obtain ⟨how, hoa⟩ := h.s.way z z1
 have hS : Step (passF g p z.ab) w w := Step.refl _ _
 have hp := h.own
 have hpi := h.pi
 have hn0 := h.s.node
 have hNX : ∀ k, g.Xn k → k < w.heap.size := fun k hk => hn0.ltX hk
 have hNp : ¬ g.Xn p := fun e => h.n_p (.inl e)
 have t1 := h.t_p
 have t5 := h.s.t_ab z1
 have t6 := h.s.t_wb z1
 have hNw : ¬ g.Xn z.wb := fun e => by have := h.s.t_nd e; omega
 have hNa : ¬ g.Xn z.ab := fun e => by have := h.s.t_nd e; omega
 have hpw : p ≠ z.wb := fun e => by rw [e] at t1; omega
 have hpa : p ≠ z.ab := fun e => by rw [e] at t1; omega
 have hwa : z.wb ≠ z.ab := fun e => by rw [e] at t6; omega
 have hpl := hp.lt
 have hok := h.out_hd z1 hk (l := 1) (.inr rfl)
 refine CV_enter Tryz.f70 _ 88 [(0, .pointer (some ⟨p, 0, none⟩)), (1, .pointer (some ⟨z.wb, 0, none⟩)), (2, .agg (cellA hh ps)), (3, .bool false)] Tryz.func70 rfl rfl (by kernel_rfl) rfl ?_
 refine VC_seq ?_
 refine VC_region ?_
 refine VL_box (d := 6) (t := 45) (c := (cellA hh ps)) (by kernel_rfl) (by kernel_rfl) ?_
 intro b1 w1 hn1
 replace hS := passF_no hS (hn1.step No)
 replace hp := hp.no (hn1.step No)
 replace how := how.no (hn1.step No)
 replace hoa := hoa.no (hn1.step No)
 replace hn0 := NdP.no hn0 (hn1.step No)
 have ho1 := hn1.own
 have hzhn1 := hn1.size
 have hqhn1 := hn1.eqb
 refine VL_pure 2 [0, 1, 3, 6] [(0, .pointer (some ⟨p, 0, none⟩)), (1, .pointer (some ⟨z.wb, 0, none⟩)), (3, .bool false), (6, .pointer (some ⟨b1, 0, none⟩))] (by kernel_rfl) rfl ?_
 refine VL_end (by kernel_rfl) ?_
 refine VQ_next ?_
 refine VC_seq ?_
 refine VC_region ?_
 refine VL_pure 2 [0, 1, 3, 6, 13] [(0, .pointer (some ⟨p, 0, none⟩)), (1, .pointer (some ⟨z.wb, 0, none⟩)), (3, .bool false), (6, .pointer (some ⟨b1, 0, none⟩)), (13, .pointer (some ⟨b1, 4, none⟩))] (by kernel_rfl) rfl ?_
 refine VL_load (d := 14) (t := 3) (a := ⟨b1, 4, none⟩) (v := .int .i64 hh.l) (by kernel_rfl) (by kernel_rfl) (Loads.cellF (i := 4) ho1 (by kernel_rfl) (by decide) rfl) ?_
 refine VL_pure 4 [0, 1, 3, 6, 9] [(0, .pointer (some ⟨p, 0, none⟩)), (1, .pointer (some ⟨z.wb, 0, none⟩)), (3, .bool false), (6, .pointer (some ⟨b1, 0, none⟩)), (9, .int .i64 hh.l)] (by kernel_rfl) rfl ?_
 refine VL_end (by kernel_rfl) ?_
 refine VQ_next ?_
 refine VC_seq ?_
 refine VC_seq ?_
 have hs1 := drew_step w1
 have hs1z : w1.heap.size = w1.drew.heap.size := rfl
 refine VC_text [[], [0], [0, 1], [0, 1, 2], [], [4], [4, 5], [4, 5, 6], [], [8], [8, 9], [8, 9, 10], [], [12], [12, 13], [0, 1, 2, 3, 4, 5, 6, 7, 8, 9, 10, 11, 12, 13, 14], [0, 1, 2, 3, 4, 5, 6, 7, 8, 9, 10, 11, 12, 13, 14, 15], [0, 1, 2, 3, 4, 5, 6, 7, 8, 9, 10, 11, 12, 13, 14, 15, 16], [0, 1, 2, 3, 4, 5, 6, 7, 8, 9, 10, 11, 12, 13, 14, 15, 16], [0, 1, 2, 3, 4, 5, 6, 7, 8, 9, 10, 11, 12, 13, 14, 15, 16, 17], [0, 1, 2, 3, 4, 5, 6, 7, 8, 9, 10, 11, 12, 13, 14, 15, 16, 17, 18, 19]] 20 (fun x y => Step (fun k => g.Xn k ∨ w1.heap.size ≤ k) x y) [15] [0, 1, 2, 3, 4, 5, 6, 7, 8, 9, 10, 11, 12, 13, 14, 15, 16, 17, 18, 19] (by kernel_rfl) (by kernel_rfl) (by kernel_rfl) (by kernel_rfl) (fun x => Step.refl _ x) (fun h k => Step.trans h k) Step.weak ?_
 generalize w1.drew = w2 at hs1 hs1z ⊢
 replace hS := passF_no hS hs1
 replace hp := hp.no hs1
 replace how := how.no hs1
 replace hoa := hoa.no hs1
 replace hn0 := NdP.no hn0 hs1
 replace ho1 := ho1.no hs1
 refine VT_pures 3 (kn' := [(2, .pointer (some ⟨p, 0, none⟩)), (1, .pointer (some ⟨p, 0, none⟩)), (0, .pointer (some ⟨p, 0, none⟩))]) (by kernel_rfl) ?_
 refine VT_load (d := 19) (t := 121) (a := ⟨p, 0, none⟩) (v := .pointer (some ⟨g.nd, 0, none⟩)) (by kernel_rfl) (by kernel_rfl) ?_ ?_
 ·intro w3 hr1
  have hcut1 := Step.cut hr1 (by omega)
  replace hp := hp.step hcut1 hNp
  exact (Loads.own1 hp (by kernel_rfl) (by rfl))
 refine VT_pures 3 (kn' := [(6, .pointer (some ⟨z.wb, 3, none⟩)), (5, .pointer (some ⟨z.wb, 0, none⟩)), (4, .pointer (some ⟨z.wb, 0, none⟩)), (3, .pointer (some ⟨g.nd, 0, none⟩)), (2, .pointer (some ⟨p, 0, none⟩)), (1, .pointer (some ⟨p, 0, none⟩)), (0, .pointer (some ⟨p, 0, none⟩))]) (by kernel_rfl) ?_
 refine VT_load (d := 23) (t := 34) (a := ⟨z.wb, 3, none⟩) (v := .agg #[.int .i64 z.y.op, .int .i64 z.y.ov, .int .i64 z.y.oc]) (by kernel_rfl) (by kernel_rfl) ?_ ?_
 ·intro w4 hr2
  have hcut2 := Step.cut hr2 (by omega)
  replace how := how.step hcut2 hNw
  exact (Loads.ownL how (n := 3) (by kernel_rfl) (by kernel_rfl) (by kernel_rfl))
 refine VT_pures 3 (kn' := [(10, .pointer (some ⟨p, 10, none⟩)), (9, .pointer (some ⟨p, 0, none⟩)), (8, .pointer (some ⟨p, 0, none⟩)), (7, .agg #[.int .i64 z.y.op, .int .i64 z.y.ov, .int .i64 z.y.oc]), (6, .pointer (some ⟨z.wb, 3, none⟩)), (5, .pointer (some ⟨z.wb, 0, none⟩)), (4, .pointer (some ⟨z.wb, 0, none⟩)), (3, .pointer (some ⟨g.nd, 0, none⟩)), (2, .pointer (some ⟨p, 0, none⟩)), (1, .pointer (some ⟨p, 0, none⟩)), (0, .pointer (some ⟨p, 0, none⟩))]) (by kernel_rfl) ?_
 refine VT_load (d := 27) (t := 3) (a := ⟨p, 10, none⟩) (v := .int .i64 st.now) (by kernel_rfl) (by kernel_rfl) ?_ ?_
 ·intro w5 hr3
  have hcut3 := Step.cut hr3 (by omega)
  replace hp := hp.step hcut3 hNp
  exact (Loads.own1 hp (by kernel_rfl) (by rfl))
 refine VT_pures 2 (kn' := [(13, .pointer (some ⟨b1, 4, none⟩)), (12, .pointer (some ⟨b1, 0, none⟩)), (11, .int .i64 st.now), (10, .pointer (some ⟨p, 10, none⟩)), (9, .pointer (some ⟨p, 0, none⟩)), (8, .pointer (some ⟨p, 0, none⟩)), (7, .agg #[.int .i64 z.y.op, .int .i64 z.y.ov, .int .i64 z.y.oc]), (6, .pointer (some ⟨z.wb, 3, none⟩)), (5, .pointer (some ⟨z.wb, 0, none⟩)), (4, .pointer (some ⟨z.wb, 0, none⟩)), (3, .pointer (some ⟨g.nd, 0, none⟩)), (2, .pointer (some ⟨p, 0, none⟩)), (1, .pointer (some ⟨p, 0, none⟩)), (0, .pointer (some ⟨p, 0, none⟩))]) (by kernel_rfl) ?_
 refine VT_load (d := 30) (t := 3) (a := ⟨b1, 4, none⟩) (v := .int .i64 hh.l) (by kernel_rfl) (by kernel_rfl) ?_ ?_
 ·intro w6 hr4
  have hcut4 := Step.cut hr4 (by omega)
  replace ho1 := ho1.step hcut4 (fun h8 => by have h7 := hNX _ h8; omega)
  exact (Loads.cellF (i := 4) ho1 (by kernel_rfl) (by decide) rfl)
 refine VT_chain (by kernel_rfl) ?_
 intro w7 hs2
 have hzhs2 := hs2.size
 replace hS := passF_no hS hs2
 replace hp := hp.no hs2
 replace how := how.no hs2
 replace hoa := hoa.no hs2
 replace hn0 := NdP.no hn0 hs2
 replace ho1 := ho1.no hs2
 refine VTc_call (d := 31) (f := 125) (args := #[.pointer (some ⟨g.nd, 0, none⟩), .agg #[.int .i64 z.y.op, .int .i64 z.y.ov, .int .i64 z.y.oc], .int .i64 st.now, .int .i64 hh.l]) (by kernel_rfl) (by kernel_rfl) (by kernel_rfl) Tryz.call125 (nverdict hn0 z.y.op z.y.ov z.y.oc st.now hh.l) ?_ ?_
 ·rintro _ w8 ⟨rfl, X9, hn1, hX9, hc1⟩
  exact Step.mono hc1 TPl6aa
 rintro _ w8 ⟨rfl, X9, hn1, hX9, hc1⟩
 replace hS := Step.trans hS (Step.mono hc1 (fun i9 h9 => .inl h9))
 replace hp := hp.step hc1 hNp
 replace how := how.step hc1 hNw
 replace hoa := hoa.step hc1 hNa
 replace ho1 := ho1.step hc1 (fun h8 => by have h7 := hNX _ h8; omega)
 refine VT_pures 4 (kn' := [(19, .int .i64 (verV st.L z.y.op z.y.ov z.y.oc st.now hh.l)), (18, .bool ((findC st.L z.y.op z.y.ov z.y.oc).isSome)), (17, .int .i64 (verV st.L z.y.op z.y.ov z.y.oc st.now hh.l)), (16, .tuple #[.int .i64 (verV st.L z.y.op z.y.ov z.y.oc st.now hh.l), .bool ((findC st.L z.y.op z.y.ov z.y.oc).isSome)]), (15, .tuple #[.int .i64 (verV st.L z.y.op z.y.ov z.y.oc st.now hh.l), .bool ((findC st.L z.y.op z.y.ov z.y.oc).isSome)]), (14, .int .i64 hh.l), (13, .pointer (some ⟨b1, 4, none⟩)), (12, .pointer (some ⟨b1, 0, none⟩)), (11, .int .i64 st.now), (10, .pointer (some ⟨p, 10, none⟩)), (9, .pointer (some ⟨p, 0, none⟩)), (8, .pointer (some ⟨p, 0, none⟩)), (7, .agg #[.int .i64 z.y.op, .int .i64 z.y.ov, .int .i64 z.y.oc]), (6, .pointer (some ⟨z.wb, 3, none⟩)), (5, .pointer (some ⟨z.wb, 0, none⟩)), (4, .pointer (some ⟨z.wb, 0, none⟩)), (3, .pointer (some ⟨g.nd, 0, none⟩)), (2, .pointer (some ⟨p, 0, none⟩)), (1, .pointer (some ⟨p, 0, none⟩)), (0, .pointer (some ⟨p, 0, none⟩))]) (by kernel_rfl) ?_
 refine VT_end ?_
 intro w9 hs3
 replace hS := passF_no hS hs3
 replace hp := hp.no hs3
 replace how := how.no hs3
 replace hoa := hoa.no hs3
 replace ho1 := ho1.no hs3
 replace hn1 := NdP.no hn1 hs3
 refine VL_keep [0, 1, 3, 6, 9, 33, 10] [(0, .pointer (some ⟨p, 0, none⟩)), (1, .pointer (some ⟨z.wb, 0, none⟩)), (3, .bool false), (6, .pointer (some ⟨b1, 0, none⟩)), (9, .int .i64 hh.l), (33, .bool ((findC st.L z.y.op z.y.ov z.y.oc).isSome)), (10, .int .i64 (verV st.L z.y.op z.y.ov z.y.oc st.now hh.l))] (by kernel_rfl) ?_
 refine VL_pure 21 [0, 1, 3, 6, 9, 10] [(0, .pointer (some ⟨p, 0, none⟩)), (1, .pointer (some ⟨z.wb, 0, none⟩)), (3, .bool false), (6, .pointer (some ⟨b1, 0, none⟩)), (9, .int .i64 hh.l), (10, .int .i64 (verV st.L z.y.op z.y.ov z.y.oc st.now hh.l))] (by kernel_rfl) rfl ?_
 refine VL_end (by kernel_rfl) ?_
 refine VQ_next ?_
 refine VC_seq ?_
 refine VC_region ?_
 refine VL_pure 1 [0, 1, 3, 6, 9, 34] [(0, .pointer (some ⟨p, 0, none⟩)), (1, .pointer (some ⟨z.wb, 0, none⟩)), (3, .bool false), (6, .pointer (some ⟨b1, 0, none⟩)), (9, .int .i64 hh.l), (34, .int .i64 (verV st.L z.y.op z.y.ov z.y.oc st.now hh.l))] (by kernel_rfl) rfl ?_
 refine VL_end (by kernel_rfl) ?_
 refine VQ_next ?_
 refine VC_block ?_
 refine VC_seq ?_
 refine VC_region ?_
 refine VL_pure 2 [0, 1, 3, 6, 9, 34, 44] [(0, .pointer (some ⟨p, 0, none⟩)), (1, .pointer (some ⟨z.wb, 0, none⟩)), (3, .bool false), (6, .pointer (some ⟨b1, 0, none⟩)), (9, .int .i64 hh.l), (34, .int .i64 (verV st.L z.y.op z.y.ov z.y.oc st.now hh.l)), (44, .bool ((verV st.L z.y.op z.y.ov z.y.oc st.now hh.l) == 3))] (by kernel_rfl) rfl ?_
 refine VL_end (by kernel_rfl) ?_
 refine VQ_next ?_
 refine VC_is (b := (verV st.L z.y.op z.y.ov z.y.oc st.now hh.l) == 3) false (by kernel_rfl) (by rw [hv]; rfl) ?_
 refine VC_ite_false ?_
 refine VC_seq ?_
 refine VC_region ?_
 refine VL_pure 2 [0, 1, 3, 6, 9, 55] [(0, .pointer (some ⟨p, 0, none⟩)), (1, .pointer (some ⟨z.wb, 0, none⟩)), (3, .bool false), (6, .pointer (some ⟨b1, 0, none⟩)), (9, .int .i64 hh.l), (55, .bool ((verV st.L z.y.op z.y.ov z.y.oc st.now hh.l) == 2))] (by kernel_rfl) rfl ?_
 refine VL_end (by kernel_rfl) ?_
 refine VQ_next ?_
 refine VC_is (b := (verV st.L z.y.op z.y.ov z.y.oc st.now hh.l) == 2) true (by kernel_rfl) (beq_iff_eq.2 hv) ?_
 refine VC_ite_true ?_
 refine VC_seq ?_
 have hs4 := drew_step w9
 have hs4z : w9.heap.size = w9.drew.heap.size := rfl
 refine VC_text [[], [0], [0, 1], [0, 1, 2], [0, 1, 2, 3], [0, 1, 2, 3, 4], [0], [0, 6], [0, 1, 2, 3, 4, 5, 6, 7], [0, 1, 2, 3, 4, 5, 6, 7, 8]] 8 (fun x y => Step (fun k => w9.heap.size ≤ k) x y) [] [0, 1, 2, 3, 4, 5, 6, 7] (by kernel_rfl) (by kernel_rfl) (by kernel_rfl) (by kernel_rfl) (fun x => Step.refl _ x) (fun h k => Step.trans h k) Step.weak ?_
 have hzl15 := hp.lt
 generalize w9.drew = w10 at hs4 hs4z ⊢
 replace hS := passF_no hS hs4
 replace hp := hp.no hs4
 replace how := how.no hs4
 replace hoa := hoa.no hs4
 replace ho1 := ho1.no hs4
 replace hn1 := NdP.no hn1 hs4
 refine VT_pures 3 (kn' := [(2, .pointer (some ⟨p, 11, none⟩)), (1, .pointer (some ⟨p, 0, none⟩)), (0, .pointer (some ⟨p, 0, none⟩))]) (by kernel_rfl) ?_
 refine VT_index (d := 60) (b := p) (o := 11) (len := 9) (sz := 1) (mm := 7) (by kernel_rfl) (by kernel_rfl) 7 (by rfl) (by omega) 18 (by omega) ?_
 refine VT_load (d := 61) (t := 3) (a := ⟨p, 18, none⟩) (v := .int .i64 (st.cn 7)) (by kernel_rfl) (by kernel_rfl) ?_ ?_
 ·intro w11 hr5
  replace hp := hp.step hr5 (by (try simp only); omega)
  exact (Loads.own1 hp (by kernel_rfl) (by rfl))
 refine VT_pures 3 (kn' := [(7, .pointer (some ⟨p, 11, none⟩)), (6, .pointer (some ⟨p, 0, none⟩)), (5, .int .i64 (IntKind.wrap .i64 ((st.cn 7) + 1))), (4, .int .i64 (st.cn 7)), (3, .pointer (some ⟨p, 18, none⟩)), (2, .pointer (some ⟨p, 11, none⟩)), (1, .pointer (some ⟨p, 0, none⟩)), (0, .pointer (some ⟨p, 0, none⟩))]) (by kernel_rfl) ?_
 refine VT_end ?_
 intro w12 hs5
 replace hS := passF_no hS hs5
 replace hp := hp.no hs5
 replace how := how.no hs5
 replace hoa := hoa.no hs5
 replace ho1 := ho1.no hs5
 replace hn1 := NdP.no hn1 hs5
 refine VL_keep [0, 1, 3, 6, 62, 64] [(0, .pointer (some ⟨p, 0, none⟩)), (1, .pointer (some ⟨z.wb, 0, none⟩)), (3, .bool false), (6, .pointer (some ⟨b1, 0, none⟩)), (62, .int .i64 (IntKind.wrap .i64 ((st.cn 7) + 1))), (64, .pointer (some ⟨p, 11, none⟩))] (by kernel_rfl) ?_
 refine VL_index (d := 65) (b := p) (o := 11) (len := 9) (sz := 1) (m := 7) (by kernel_rfl) (by kernel_rfl) 7 (by rfl) (by omega) 18 (by omega) ?_
 refine VL_store (b := p) (o := 18) (vs := [.int .i64 (IntKind.wrap .i64 ((st.cn 7) + 1))]) (by kernel_rfl) (by kernel_rfl) hp (Nat.le_of_ble_eq_true (by kernel_rfl)) ?_
 intro w13 hw1
 replace hS := Step.trans hS (Step.mono hw1.step (fun i9 h9 => .inr (.inl h9)))
 replace how := how.step hw1.step (show ¬ z.wb = p by omega)
 replace hoa := hoa.step hw1.step (show ¬ z.ab = p by omega)
 replace ho1 := ho1.step hw1.step (show ¬ b1 = p by omega)
 replace hn1 := NdP.blk hn1 hp (by decide) hw1.step
 have ho2 : Own w13 p #[.pointer (some ⟨g.nd, 0, none⟩), .slice g.la st.lk.length g.lc, .pointer (some ⟨g.tb, 0, none⟩), .map (some g.wm), .map (some g.cm), .int .i64 st.tm.s, .int .i64 st.tm.c, .int .i64 st.tm.r, .int .i64 st.wait, .int .i64 ((g.next : Nat) : Int), .int .i64 st.now, .int .i64 (st.cn 0), .int .i64 (st.cn 1), .int .i64 (st.cn 2), .int .i64 (st.cn 3), .int .i64 (st.cn 4), .int .i64 (st.cn 5), .int .i64 (st.cn 6), .int .i64 (IntKind.wrap .i64 ((st.cn 7) + 1)), .int .i64 (st.cn 8)] 129 := Own.cast hw1.own (by kernel_rfl)
 have hzhw1 := hw1.same
 refine VL_end (by kernel_rfl) ?_
 refine VQ_next ?_
 refine VC_region ?_
 refine VL_pure 1 [0, 1, 3, 6, 9] [(0, .pointer (some ⟨p, 0, none⟩)), (1, .pointer (some ⟨z.wb, 0, none⟩)), (3, .bool false), (6, .pointer (some ⟨b1, 0, none⟩)), (9, .int .i64 1)] (by kernel_rfl) rfl ?_
 refine VL_end (by kernel_rfl) ?_
 refine VQ_block_normal ?_
 refine VQ_next ?_
 refine VC_seq ?_
 refine VC_seq ?_
 refine VC_region ?_
 refine VL_pure 1 [0, 1, 6, 9, 66] [(0, .pointer (some ⟨p, 0, none⟩)), (1, .pointer (some ⟨z.wb, 0, none⟩)), (6, .pointer (some ⟨b1, 0, none⟩)), (9, .int .i64 1), (66, .bool false)] (by kernel_rfl) rfl ?_
 refine VL_end (by kernel_rfl) ?_
 refine VQ_next ?_
 refine VC_false (by kernel_rfl) ?_
 refine VC_skip ?_
 refine VQ_next ?_
 refine VC_seq ?_
 have hs6 := drew_step w13
 have hs6z : w13.heap.size = w13.drew.heap.size := rfl
 refine VC_text [[], [0], [0, 1], [0, 1, 2], [], [4], [4, 5], [], [], [8], [0, 1, 2, 3, 4, 5, 6, 7, 8, 9], [0, 1, 2, 3, 4, 5, 6, 7, 8, 9, 10], [0, 1, 2, 3, 4, 5, 6, 7, 8, 9, 10, 11]] 10 (fun x y => Step (fun k => w13.heap.size ≤ k) x y) [] [0, 1, 2, 3, 4, 5, 6, 7, 8, 9] (by kernel_rfl) (by kernel_rfl) (by kernel_rfl) (by kernel_rfl) (fun x => Step.refl _ x) (fun h k => Step.trans h k) Step.weak ?_
 have hzl20 := how.lt
 have hzl22 := ho1.lt
 generalize w13.drew = w14 at hs6 hs6z ⊢
 replace hS := passF_no hS hs6
 replace how := how.no hs6
 replace hoa := hoa.no hs6
 replace ho1 := ho1.no hs6
 replace hn1 := NdP.no hn1 hs6
 replace ho2 := ho2.no hs6
 refine VT_pures 3 (kn' := [(2, .pointer (some ⟨z.wb, 3, none⟩)), (1, .pointer (some ⟨z.wb, 0, none⟩)), (0, .pointer (some ⟨z.wb, 0, none⟩))]) (by kernel_rfl) ?_
 refine VT_load (d := 79) (t := 34) (a := ⟨z.wb, 3, none⟩) (v := .agg #[.int .i64 z.y.op, .int .i64 z.y.ov, .int .i64 z.y.oc]) (by kernel_rfl) (by kernel_rfl) ?_ ?_
 ·intro w15 hr6
  replace how := how.step hr6 (by (try simp only); omega)
  exact (Loads.ownL how (n := 3) (by kernel_rfl) (by kernel_rfl) (by kernel_rfl))
 refine VT_pures 2 (kn' := [(5, .pointer (some ⟨b1, 3, none⟩)), (4, .pointer (some ⟨b1, 0, none⟩)), (3, .agg #[.int .i64 z.y.op, .int .i64 z.y.ov, .int .i64 z.y.oc]), (2, .pointer (some ⟨z.wb, 3, none⟩)), (1, .pointer (some ⟨z.wb, 0, none⟩)), (0, .pointer (some ⟨z.wb, 0, none⟩))]) (by kernel_rfl) ?_
 refine VT_load (d := 82) (t := 3) (a := ⟨b1, 3, none⟩) (v := .int .i64 hh.p) (by kernel_rfl) (by kernel_rfl) ?_ ?_
 ·intro w16 hr7
  replace ho1 := ho1.step hr7 (by (try simp only); omega)
  exact (Loads.cellF (i := 3) ho1 (by kernel_rfl) (by decide) rfl)
 refine VT_pures 2 (kn' := [(8, .pointer (some ⟨b1, 5, none⟩)), (7, .int .i64 1), (6, .int .i64 hh.p), (5, .pointer (some ⟨b1, 3, none⟩)), (4, .pointer (some ⟨b1, 0, none⟩)), (3, .agg #[.int .i64 z.y.op, .int .i64 z.y.ov, .int .i64 z.y.oc]), (2, .pointer (some ⟨z.wb, 3, none⟩)), (1, .pointer (some ⟨z.wb, 0, none⟩)), (0, .pointer (some ⟨z.wb, 0, none⟩))]) (by kernel_rfl) ?_
 refine VT_load (d := 85) (t := 43) (a := ⟨b1, 5, none⟩) (v := .agg (iA .u8 ps)) (by kernel_rfl) (by kernel_rfl) ?_ ?_
 ·intro w17 hr8
  replace ho1 := ho1.step hr8 (by (try simp only); omega)
  exact (Loads.cellP ho1 hps (by kernel_rfl))
 refine VT_end ?_
 intro w18 hs7
 replace hS := passF_no hS hs7
 replace hoa := hoa.no hs7
 replace ho1 := ho1.no hs7
 replace hn1 := NdP.no hn1 hs7
 replace ho2 := ho2.no hs7
 refine VL_keep [79, 82, 83, 85] [(79, .agg #[.int .i64 z.y.op, .int .i64 z.y.ov, .int .i64 z.y.oc]), (82, .int .i64 hh.p), (83, .int .i64 1), (85, .agg (iA .u8 ps))] (by kernel_rfl) ?_
 have hzl27 := ho1.lt
 refine VL_call (d := 86) (f := 82) (args := #[.agg #[.int .i64 z.y.op, .int .i64 z.y.ov, .int .i64 z.y.oc], .int .i64 hh.p, .int .i64 1, .agg (iA .u8 ps)]) (by kernel_rfl) (by kernel_rfl) (by kernel_rfl) Tryz.call82 (send_yes z.y.op z.y.ov z.y.oc hh.p 1 ps _ hps hok) ?_
 rintro _ w19 ⟨A1, c1, rfl, hr9, hc2⟩
 replace hS := passF_no hS hc2
 replace hoa := hoa.no hc2
 replace ho1 := ho1.no hc2
 replace hn1 := NdP.no hn1 hc2
 replace ho2 := ho2.no hc2
 obtain ⟨base1, hbase1E⟩ : ∃ x, x = w18.heap.size := ⟨_, rfl⟩
 rw [← hbase1E] at hr9
 have hzl32 := ho1.lt
 refine VL_bs (d := 87) (e := 67) (c := #[.int .i64 z.y.op, .slice A1 53 c1]) (len := 1) (by kernel_rfl) (by kernel_rfl) ?_
 intro b2 w20 hn2
 replace hS := passF_no hS (hn2.step No)
 replace hoa := hoa.no (hn2.step No)
 replace hn1 := NdP.no hn1 (hn2.step No)
 replace ho2 := ho2.no (hn2.step No)
 replace hr9 := hr9.no (hn2.step No)
 have ho3 := hn2.own
 have hzhn2 := hn2.size
 have hqhn2 := hn2.eqb
 refine VL_pure 13 [8] [(8, .slice (some ⟨b2, 0, none⟩) 1 1)] (by kernel_rfl) rfl ?_
 refine VL_end (by kernel_rfl) ?_
 refine VQ_next ?_
 refine VC_ret ?_
 refine VQ_ret1 (.slice (some ⟨b2, 0, none⟩) 1 1) (.inr rfl) rfl rfl ?_
 have hcz := hpi.cn 7
 obtain ⟨oo1, oo2, oo3, oo4⟩ := h.out_ok z1
 have hX := h.passed (cn9 := bump st.cn 7) (al9 := z.y.al) hz hS (Own.cast ho2 TPl6ab) hn1 (fun q hq => (hX9 q hq).imp id (fun h9 => by omega)) TPl6ac (fun a b d => findC_setC (f := newR st.now hh.l) hn0.li.one (fun x => ⟨rfl, rfl, rfl⟩) a b d) (bump_le hpi.cn 7) hoa (hpi.als z.y TPl6ad)
 have hN : PNext w p X XB lo { st with L := verN st.L z.y.op z.y.ov z.y.oc st.now hh.l, cn := bump st.cn 7, W := setW st.W q v c (setAl (z.y.al)) } (n + 1) w20 := ⟨_, XB, ⟨_, hX⟩, fun k9 hk9 => by rcases hk9 with ⟨a, _⟩ | a; exact .inl a; exact (hX9 k9 a).imp (fun h9 => h.inX k9 (.inl h9)) (fun h9 => by omega), fun k9 hk9 => .inl hk9, Step.mono hS (fun k9 hk9 => by rcases hk9 with a | a | a; exact h.inX k9 (.inl a); rw [a]; exact h.inp.1; rw [a]; exact h.inX _ (.inr (.inr (.inr ⟨z, z1, .inr rfl⟩))))⟩
 exact ⟨⟨b2, A1, c1, rfl, ho3, by omega, Rw.low hr9 (by omega)⟩, hN⟩

theorem pass_go0 (p lo : Nat) (X XB : Nat → Prop) (g : PlG) (st : PS) (n : Nat) (w : World) (q v c : Int) (z : Wi) (hz : findWi g.wi q v c = some z) (hh : Hd) (ps : List Int) (hps : ps.length = 48) (hk : hdOk hh = true) (hn : n < 1152921504606846976) (hv3 : verV st.L z.y.op z.y.ov z.y.oc st.now hh.l ≠ 3) (hv2 : verV st.L z.y.op z.y.ov z.y.oc st.now hh.l ≠ 2) (hl : hh.l = 0 ∨ hh.l = 1) (h : PnX w p X XB lo g st n)  :
  CV Tryz.prog 70 #[.pointer (some ⟨p, 0, none⟩), .pointer (some ⟨z.wb, 0, none⟩), .agg (cellA hh ps), .bool false] w (fun x w1 => Out1 w w1 x z.y.op (buildL ⟨0, z.y.ov, z.y.oc, hh.p, hh.l⟩ ps) ∧ PNext w p X XB lo { st with L := verN st.L z.y.op z.y.ov z.y.oc st.now hh.l, cn := bump st.cn 6, W := setW st.W q v c (setAl (z.y.al)) } (n + 1) w1) := by
 obtain ⟨z1, z2, z3, z4⟩ := findWi_some hz
 obtain ⟨how, hoa⟩ := h.s.way z z1
 have hS : Step (passF g p z.ab) w w := Step.refl _ _
 have hp := h.own
 have hpi := h.pi
 have hn0 := h.s.node
 have hNX : ∀ k, g.Xn k → k < w.heap.size := fun k hk => hn0.ltX hk
 have hNp : ¬ g.Xn p := fun e => h.n_p (.inl e)
 have t1 := h.t_p
 have t5 := h.s.t_ab z1
 have t6 := h.s.t_wb z1
 have hNw : ¬ g.Xn z.wb := fun e => by have := h.s.t_nd e; omega
 have hNa : ¬ g.Xn z.ab := fun e => by have := h.s.t_nd e; omega
 have hpw : p ≠ z.wb := fun e => by rw [e] at t1; omega
 have hpa : p ≠ z.ab := fun e => by rw [e] at t1; omega
 have hwa : z.wb ≠ z.ab := fun e => by rw [e] at t6; omega
 have hpl := hp.lt
 have hok := h.out_hd z1 hk hl
 refine CV_enter Tryz.f70 _ 88 [(0, .pointer (some ⟨p, 0, none⟩)), (1, .pointer (some ⟨z.wb, 0, none⟩)), (2, .agg (cellA hh ps)), (3, .bool false)] Tryz.func70 rfl rfl (by kernel_rfl) rfl ?_
 refine VC_seq ?_
 refine VC_region ?_
 refine VL_box (d := 6) (t := 45) (c := (cellA hh ps)) (by kernel_rfl) (by kernel_rfl) ?_
 intro b1 w1 hn1
 replace hS := passF_no hS (hn1.step No)
 replace hp := hp.no (hn1.step No)
 replace how := how.no (hn1.step No)
 replace hoa := hoa.no (hn1.step No)
 replace hn0 := NdP.no hn0 (hn1.step No)
 have ho1 := hn1.own
 have hzhn1 := hn1.size
 have hqhn1 := hn1.eqb
 refine VL_pure 2 [0, 1, 3, 6] [(0, .pointer (some ⟨p, 0, none⟩)), (1, .pointer (some ⟨z.wb, 0, none⟩)), (3, .bool false), (6, .pointer (some ⟨b1, 0, none⟩))] (by kernel_rfl) rfl ?_
 refine VL_end (by kernel_rfl) ?_
 refine VQ_next ?_
 refine VC_seq ?_
 refine VC_region ?_
 refine VL_pure 2 [0, 1, 3, 6, 13] [(0, .pointer (some ⟨p, 0, none⟩)), (1, .pointer (some ⟨z.wb, 0, none⟩)), (3, .bool false), (6, .pointer (some ⟨b1, 0, none⟩)), (13, .pointer (some ⟨b1, 4, none⟩))] (by kernel_rfl) rfl ?_
 refine VL_load (d := 14) (t := 3) (a := ⟨b1, 4, none⟩) (v := .int .i64 hh.l) (by kernel_rfl) (by kernel_rfl) (Loads.cellF (i := 4) ho1 (by kernel_rfl) (by decide) rfl) ?_
 refine VL_pure 4 [0, 1, 3, 6, 9] [(0, .pointer (some ⟨p, 0, none⟩)), (1, .pointer (some ⟨z.wb, 0, none⟩)), (3, .bool false), (6, .pointer (some ⟨b1, 0, none⟩)), (9, .int .i64 hh.l)] (by kernel_rfl) rfl ?_
 refine VL_end (by kernel_rfl) ?_
 refine VQ_next ?_
 refine VC_seq ?_
 refine VC_seq ?_
 have hs1 := drew_step w1
 have hs1z : w1.heap.size = w1.drew.heap.size := rfl
 refine VC_text [[], [0], [0, 1], [0, 1, 2], [], [4], [4, 5], [4, 5, 6], [], [8], [8, 9], [8, 9, 10], [], [12], [12, 13], [0, 1, 2, 3, 4, 5, 6, 7, 8, 9, 10, 11, 12, 13, 14], [0, 1, 2, 3, 4, 5, 6, 7, 8, 9, 10, 11, 12, 13, 14, 15], [0, 1, 2, 3, 4, 5, 6, 7, 8, 9, 10, 11, 12, 13, 14, 15, 16], [0, 1, 2, 3, 4, 5, 6, 7, 8, 9, 10, 11, 12, 13, 14, 15, 16], [0, 1, 2, 3, 4, 5, 6, 7, 8, 9, 10, 11, 12, 13, 14, 15, 16, 17], [0, 1, 2, 3, 4, 5, 6, 7, 8, 9, 10, 11, 12, 13, 14, 15, 16, 17, 18, 19]] 20 (fun x y => Step (fun k => g.Xn k ∨ w1.heap.size ≤ k) x y) [15] [0, 1, 2, 3, 4, 5, 6, 7, 8, 9, 10, 11, 12, 13, 14, 15, 16, 17, 18, 19] (by kernel_rfl) (by kernel_rfl) (by kernel_rfl) (by kernel_rfl) (fun x => Step.refl _ x) (fun h k => Step.trans h k) Step.weak ?_
 generalize w1.drew = w2 at hs1 hs1z ⊢
 replace hS := passF_no hS hs1
 replace hp := hp.no hs1
 replace how := how.no hs1
 replace hoa := hoa.no hs1
 replace hn0 := NdP.no hn0 hs1
 replace ho1 := ho1.no hs1
 refine VT_pures 3 (kn' := [(2, .pointer (some ⟨p, 0, none⟩)), (1, .pointer (some ⟨p, 0, none⟩)), (0, .pointer (some ⟨p, 0, none⟩))]) (by kernel_rfl) ?_
 refine VT_load (d := 19) (t := 121) (a := ⟨p, 0, none⟩) (v := .pointer (some ⟨g.nd, 0, none⟩)) (by kernel_rfl) (by kernel_rfl) ?_ ?_
 ·intro w3 hr1
  have hcut1 := Step.cut hr1 (by omega)
  replace hp := hp.step hcut1 hNp
  exact (Loads.own1 hp (by kernel_rfl) (by rfl))
 refine VT_pures 3 (kn' := [(6, .pointer (some ⟨z.wb, 3, none⟩)), (5, .pointer (some ⟨z.wb, 0, none⟩)), (4, .pointer (some ⟨z.wb, 0, none⟩)), (3, .pointer (some ⟨g.nd, 0, none⟩)), (2, .pointer (some ⟨p, 0, none⟩)), (1, .pointer (some ⟨p, 0, none⟩)), (0, .pointer (some ⟨p, 0, none⟩))]) (by kernel_rfl) ?_
 refine VT_load (d := 23) (t := 34) (a := ⟨z.wb, 3, none⟩) (v := .agg #[.int .i64 z.y.op, .int .i64 z.y.ov, .int .i64 z.y.oc]) (by kernel_rfl) (by kernel_rfl) ?_ ?_
 ·intro w4 hr2
  have hcut2 := Step.cut hr2 (by omega)
  replace how := how.step hcut2 hNw
  exact (Loads.ownL how (n := 3) (by kernel_rfl) (by kernel_rfl) (by kernel_rfl))
 refine VT_pures 3 (kn' := [(10, .pointer (some ⟨p, 10, none⟩)), (9, .pointer (some ⟨p, 0, none⟩)), (8, .pointer (some ⟨p, 0, none⟩)), (7, .agg #[.int .i64 z.y.op, .int .i64 z.y.ov, .int .i64 z.y.oc]), (6, .pointer (some ⟨z.wb, 3, none⟩)), (5, .pointer (some ⟨z.wb, 0, none⟩)), (4, .pointer (some ⟨z.wb, 0, none⟩)), (3, .pointer (some ⟨g.nd, 0, none⟩)), (2, .pointer (some ⟨p, 0, none⟩)), (1, .pointer (some ⟨p, 0, none⟩)), (0, .pointer (some ⟨p, 0, none⟩))]) (by kernel_rfl) ?_
 refine VT_load (d := 27) (t := 3) (a := ⟨p, 10, none⟩) (v := .int .i64 st.now) (by kernel_rfl) (by kernel_rfl) ?_ ?_
 ·intro w5 hr3
  have hcut3 := Step.cut hr3 (by omega)
  replace hp := hp.step hcut3 hNp
  exact (Loads.own1 hp (by kernel_rfl) (by rfl))
 refine VT_pures 2 (kn' := [(13, .pointer (some ⟨b1, 4, none⟩)), (12, .pointer (some ⟨b1, 0, none⟩)), (11, .int .i64 st.now), (10, .pointer (some ⟨p, 10, none⟩)), (9, .pointer (some ⟨p, 0, none⟩)), (8, .pointer (some ⟨p, 0, none⟩)), (7, .agg #[.int .i64 z.y.op, .int .i64 z.y.ov, .int .i64 z.y.oc]), (6, .pointer (some ⟨z.wb, 3, none⟩)), (5, .pointer (some ⟨z.wb, 0, none⟩)), (4, .pointer (some ⟨z.wb, 0, none⟩)), (3, .pointer (some ⟨g.nd, 0, none⟩)), (2, .pointer (some ⟨p, 0, none⟩)), (1, .pointer (some ⟨p, 0, none⟩)), (0, .pointer (some ⟨p, 0, none⟩))]) (by kernel_rfl) ?_
 refine VT_load (d := 30) (t := 3) (a := ⟨b1, 4, none⟩) (v := .int .i64 hh.l) (by kernel_rfl) (by kernel_rfl) ?_ ?_
 ·intro w6 hr4
  have hcut4 := Step.cut hr4 (by omega)
  replace ho1 := ho1.step hcut4 (fun h8 => by have h7 := hNX _ h8; omega)
  exact (Loads.cellF (i := 4) ho1 (by kernel_rfl) (by decide) rfl)
 refine VT_chain (by kernel_rfl) ?_
 intro w7 hs2
 have hzhs2 := hs2.size
 replace hS := passF_no hS hs2
 replace hp := hp.no hs2
 replace how := how.no hs2
 replace hoa := hoa.no hs2
 replace hn0 := NdP.no hn0 hs2
 replace ho1 := ho1.no hs2
 refine VTc_call (d := 31) (f := 125) (args := #[.pointer (some ⟨g.nd, 0, none⟩), .agg #[.int .i64 z.y.op, .int .i64 z.y.ov, .int .i64 z.y.oc], .int .i64 st.now, .int .i64 hh.l]) (by kernel_rfl) (by kernel_rfl) (by kernel_rfl) Tryz.call125 (nverdict hn0 z.y.op z.y.ov z.y.oc st.now hh.l) ?_ ?_
 ·rintro _ w8 ⟨rfl, X9, hn1, hX9, hc1⟩
  exact Step.mono hc1 TPl6aa
 rintro _ w8 ⟨rfl, X9, hn1, hX9, hc1⟩
 replace hS := Step.trans hS (Step.mono hc1 (fun i9 h9 => .inl h9))
 replace hp := hp.step hc1 hNp
 replace how := how.step hc1 hNw
 replace hoa := hoa.step hc1 hNa
 replace ho1 := ho1.step hc1 (fun h8 => by have h7 := hNX _ h8; omega)
 refine VT_pures 4 (kn' := [(19, .int .i64 (verV st.L z.y.op z.y.ov z.y.oc st.now hh.l)), (18, .bool ((findC st.L z.y.op z.y.ov z.y.oc).isSome)), (17, .int .i64 (verV st.L z.y.op z.y.ov z.y.oc st.now hh.l)), (16, .tuple #[.int .i64 (verV st.L z.y.op z.y.ov z.y.oc st.now hh.l), .bool ((findC st.L z.y.op z.y.ov z.y.oc).isSome)]), (15, .tuple #[.int .i64 (verV st.L z.y.op z.y.ov z.y.oc st.now hh.l), .bool ((findC st.L z.y.op z.y.ov z.y.oc).isSome)]), (14, .int .i64 hh.l), (13, .pointer (some ⟨b1, 4, none⟩)), (12, .pointer (some ⟨b1, 0, none⟩)), (11, .int .i64 st.now), (10, .pointer (some ⟨p, 10, none⟩)), (9, .pointer (some ⟨p, 0, none⟩)), (8, .pointer (some ⟨p, 0, none⟩)), (7, .agg #[.int .i64 z.y.op, .int .i64 z.y.ov, .int .i64 z.y.oc]), (6, .pointer (some ⟨z.wb, 3, none⟩)), (5, .pointer (some ⟨z.wb, 0, none⟩)), (4, .pointer (some ⟨z.wb, 0, none⟩)), (3, .pointer (some ⟨g.nd, 0, none⟩)), (2, .pointer (some ⟨p, 0, none⟩)), (1, .pointer (some ⟨p, 0, none⟩)), (0, .pointer (some ⟨p, 0, none⟩))]) (by kernel_rfl) ?_
 refine VT_end ?_
 intro w9 hs3
 replace hS := passF_no hS hs3
 replace hp := hp.no hs3
 replace how := how.no hs3
 replace hoa := hoa.no hs3
 replace ho1 := ho1.no hs3
 replace hn1 := NdP.no hn1 hs3
 refine VL_keep [0, 1, 3, 6, 9, 33, 10] [(0, .pointer (some ⟨p, 0, none⟩)), (1, .pointer (some ⟨z.wb, 0, none⟩)), (3, .bool false), (6, .pointer (some ⟨b1, 0, none⟩)), (9, .int .i64 hh.l), (33, .bool ((findC st.L z.y.op z.y.ov z.y.oc).isSome)), (10, .int .i64 (verV st.L z.y.op z.y.ov z.y.oc st.now hh.l))] (by kernel_rfl) ?_
 refine VL_pure 21 [0, 1, 3, 6, 9, 10] [(0, .pointer (some ⟨p, 0, none⟩)), (1, .pointer (some ⟨z.wb, 0, none⟩)), (3, .bool false), (6, .pointer (some ⟨b1, 0, none⟩)), (9, .int .i64 hh.l), (10, .int .i64 (verV st.L z.y.op z.y.ov z.y.oc st.now hh.l))] (by kernel_rfl) rfl ?_
 refine VL_end (by kernel_rfl) ?_
 refine VQ_next ?_
 refine VC_seq ?_
 refine VC_region ?_
 refine VL_pure 1 [0, 1, 3, 6, 9, 34] [(0, .pointer (some ⟨p, 0, none⟩)), (1, .pointer (some ⟨z.wb, 0, none⟩)), (3, .bool false), (6, .pointer (some ⟨b1, 0, none⟩)), (9, .int .i64 hh.l), (34, .int .i64 (verV st.L z.y.op z.y.ov z.y.oc st.now hh.l))] (by kernel_rfl) rfl ?_
 refine VL_end (by kernel_rfl) ?_
 refine VQ_next ?_
 refine VC_block ?_
 refine VC_seq ?_
 refine VC_region ?_
 refine VL_pure 2 [0, 1, 3, 6, 9, 34, 44] [(0, .pointer (some ⟨p, 0, none⟩)), (1, .pointer (some ⟨z.wb, 0, none⟩)), (3, .bool false), (6, .pointer (some ⟨b1, 0, none⟩)), (9, .int .i64 hh.l), (34, .int .i64 (verV st.L z.y.op z.y.ov z.y.oc st.now hh.l)), (44, .bool ((verV st.L z.y.op z.y.ov z.y.oc st.now hh.l) == 3))] (by kernel_rfl) rfl ?_
 refine VL_end (by kernel_rfl) ?_
 refine VQ_next ?_
 refine VC_is (b := (verV st.L z.y.op z.y.ov z.y.oc st.now hh.l) == 3) false (by kernel_rfl) (beq_eq_false_iff_ne.2 hv3) ?_
 refine VC_ite_false ?_
 refine VC_seq ?_
 refine VC_region ?_
 refine VL_pure 2 [0, 1, 3, 6, 9, 55] [(0, .pointer (some ⟨p, 0, none⟩)), (1, .pointer (some ⟨z.wb, 0, none⟩)), (3, .bool false), (6, .pointer (some ⟨b1, 0, none⟩)), (9, .int .i64 hh.l), (55, .bool ((verV st.L z.y.op z.y.ov z.y.oc st.now hh.l) == 2))] (by kernel_rfl) rfl ?_
 refine VL_end (by kernel_rfl) ?_
 refine VQ_next ?_
 refine VC_is (b := (verV st.L z.y.op z.y.ov z.y.oc st.now hh.l) == 2) false (by kernel_rfl) (beq_eq_false_iff_ne.2 hv2) ?_
 refine VC_ite_false ?_
 have hs4 := drew_step w9
 have hs4z : w9.heap.size = w9.drew.heap.size := rfl
 refine VC_text [[], [0], [0, 1], [0, 1, 2], [0, 1, 2, 3], [0, 1, 2, 3, 4], [0], [0, 6], [0, 1, 2, 3, 4, 5, 6, 7], [0, 1, 2, 3, 4, 5, 6, 7, 8]] 8 (fun x y => Step (fun k => w9.heap.size ≤ k) x y) [] [0, 1, 2, 3, 4, 5, 6, 7] (by kernel_rfl) (by kernel_rfl) (by kernel_rfl) (by kernel_rfl) (fun x => Step.refl _ x) (fun h k => Step.trans h k) Step.weak ?_
 have hzl15 := hp.lt
 generalize w9.drew = w10 at hs4 hs4z ⊢
 replace hS := passF_no hS hs4
 replace hp := hp.no hs4
 replace how := how.no hs4
 replace hoa := hoa.no hs4
 replace ho1 := ho1.no hs4
 replace hn1 := NdP.no hn1 hs4
 refine VT_pures 3 (kn' := [(2, .pointer (some ⟨p, 11, none⟩)), (1, .pointer (some ⟨p, 0, none⟩)), (0, .pointer (some ⟨p, 0, none⟩))]) (by kernel_rfl) ?_
 refine VT_index (d := 38) (b := p) (o := 11) (len := 9) (sz := 1) (mm := 6) (by kernel_rfl) (by kernel_rfl) 6 (by rfl) (by omega) 17 (by omega) ?_
 refine VT_load (d := 39) (t := 3) (a := ⟨p, 17, none⟩) (v := .int .i64 (st.cn 6)) (by kernel_rfl) (by kernel_rfl) ?_ ?_
 ·intro w11 hr5
  replace hp := hp.step hr5 (by (try simp only); omega)
  exact (Loads.own1 hp (by kernel_rfl) (by rfl))
 refine VT_pures 3 (kn' := [(7, .pointer (some ⟨p, 11, none⟩)), (6, .pointer (some ⟨p, 0, none⟩)), (5, .int .i64 (IntKind.wrap .i64 ((st.cn 6) + 1))), (4, .int .i64 (st.cn 6)), (3, .pointer (some ⟨p, 17, none⟩)), (2, .pointer (some ⟨p, 11, none⟩)), (1, .pointer (some ⟨p, 0, none⟩)), (0, .pointer (some ⟨p, 0, none⟩))]) (by kernel_rfl) ?_
 refine VT_end ?_
 intro w12 hs5
 replace hS := passF_no hS hs5
 replace hp := hp.no hs5
 replace how := how.no hs5
 replace hoa := hoa.no hs5
 replace ho1 := ho1.no hs5
 replace hn1 := NdP.no hn1 hs5
 refine VL_keep [0, 1, 3, 6, 9, 40, 42] [(0, .pointer (some ⟨p, 0, none⟩)), (1, .pointer (some ⟨z.wb, 0, none⟩)), (3, .bool false), (6, .pointer (some ⟨b1, 0, none⟩)), (9, .int .i64 hh.l), (40, .int .i64 (IntKind.wrap .i64 ((st.cn 6) + 1))), (42, .pointer (some ⟨p, 11, none⟩))] (by kernel_rfl) ?_
 refine VL_index (d := 43) (b := p) (o := 11) (len := 9) (sz := 1) (m := 6) (by kernel_rfl) (by kernel_rfl) 6 (by rfl) (by omega) 17 (by omega) ?_
 refine VL_store (b := p) (o := 17) (vs := [.int .i64 (IntKind.wrap .i64 ((st.cn 6) + 1))]) (by kernel_rfl) (by kernel_rfl) hp (Nat.le_of_ble_eq_true (by kernel_rfl)) ?_
 intro w13 hw1
 replace hS := Step.trans hS (Step.mono hw1.step (fun i9 h9 => .inr (.inl h9)))
 replace how := how.step hw1.step (show ¬ z.wb = p by omega)
 replace hoa := hoa.step hw1.step (show ¬ z.ab = p by omega)
 replace ho1 := ho1.step hw1.step (show ¬ b1 = p by omega)
 replace hn1 := NdP.blk hn1 hp (by decide) hw1.step
 have ho2 : Own w13 p #[.pointer (some ⟨g.nd, 0, none⟩), .slice g.la st.lk.length g.lc, .pointer (some ⟨g.tb, 0, none⟩), .map (some g.wm), .map (some g.cm), .int .i64 st.tm.s, .int .i64 st.tm.c, .int .i64 st.tm.r, .int .i64 st.wait, .int .i64 ((g.next : Nat) : Int), .int .i64 st.now, .int .i64 (st.cn 0), .int .i64 (st.cn 1), .int .i64 (st.cn 2), .int .i64 (st.cn 3), .int .i64 (st.cn 4), .int .i64 (st.cn 5), .int .i64 (IntKind.wrap .i64 ((st.cn 6) + 1)), .int .i64 (st.cn 7), .int .i64 (st.cn 8)] 129 := Own.cast hw1.own (by kernel_rfl)
 have hzhw1 := hw1.same
 refine VL_end (by kernel_rfl) ?_
 refine VQ_block_normal ?_
 refine VQ_next ?_
 refine VC_seq ?_
 refine VC_seq ?_
 refine VC_region ?_
 refine VL_pure 1 [0, 1, 6, 9, 66] [(0, .pointer (some ⟨p, 0, none⟩)), (1, .pointer (some ⟨z.wb, 0, none⟩)), (6, .pointer (some ⟨b1, 0, none⟩)), (9, .int .i64 hh.l), (66, .bool false)] (by kernel_rfl) rfl ?_
 refine VL_end (by kernel_rfl) ?_
 refine VQ_next ?_
 refine VC_false (by kernel_rfl) ?_
 refine VC_skip ?_
 refine VQ_next ?_
 refine VC_seq ?_
 have hs6 := drew_step w13
 have hs6z : w13.heap.size = w13.drew.heap.size := rfl
 refine VC_text [[], [0], [0, 1], [0, 1, 2], [], [4], [4, 5], [], [], [8], [0, 1, 2, 3, 4, 5, 6, 7, 8, 9], [0, 1, 2, 3, 4, 5, 6, 7, 8, 9, 10], [0, 1, 2, 3, 4, 5, 6, 7, 8, 9, 10, 11]] 10 (fun x y => Step (fun k => w13.heap.size ≤ k) x y) [] [0, 1, 2, 3, 4, 5, 6, 7, 8, 9] (by kernel_rfl) (by kernel_rfl) (by kernel_rfl) (by kernel_rfl) (fun x => Step.refl _ x) (fun h k => Step.trans h k) Step.weak ?_
 have hzl20 := how.lt
 have hzl22 := ho1.lt
 generalize w13.drew = w14 at hs6 hs6z ⊢
 replace hS := passF_no hS hs6
 replace how := how.no hs6
 replace hoa := hoa.no hs6
 replace ho1 := ho1.no hs6
 replace hn1 := NdP.no hn1 hs6
 replace ho2 := ho2.no hs6
 refine VT_pures 3 (kn' := [(2, .pointer (some ⟨z.wb, 3, none⟩)), (1, .pointer (some ⟨z.wb, 0, none⟩)), (0, .pointer (some ⟨z.wb, 0, none⟩))]) (by kernel_rfl) ?_
 refine VT_load (d := 79) (t := 34) (a := ⟨z.wb, 3, none⟩) (v := .agg #[.int .i64 z.y.op, .int .i64 z.y.ov, .int .i64 z.y.oc]) (by kernel_rfl) (by kernel_rfl) ?_ ?_
 ·intro w15 hr6
  replace how := how.step hr6 (by (try simp only); omega)
  exact (Loads.ownL how (n := 3) (by kernel_rfl) (by kernel_rfl) (by kernel_rfl))
 refine VT_pures 2 (kn' := [(5, .pointer (some ⟨b1, 3, none⟩)), (4, .pointer (some ⟨b1, 0, none⟩)), (3, .agg #[.int .i64 z.y.op, .int .i64 z.y.ov, .int .i64 z.y.oc]), (2, .pointer (some ⟨z.wb, 3, none⟩)), (1, .pointer (some ⟨z.wb, 0, none⟩)), (0, .pointer (some ⟨z.wb, 0, none⟩))]) (by kernel_rfl) ?_
 refine VT_load (d := 82) (t := 3) (a := ⟨b1, 3, none⟩) (v := .int .i64 hh.p) (by kernel_rfl) (by kernel_rfl) ?_ ?_
 ·intro w16 hr7
  replace ho1 := ho1.step hr7 (by (try simp only); omega)
  exact (Loads.cellF (i := 3) ho1 (by kernel_rfl) (by decide) rfl)
 refine VT_pures 2 (kn' := [(8, .pointer (some ⟨b1, 5, none⟩)), (7, .int .i64 hh.l), (6, .int .i64 hh.p), (5, .pointer (some ⟨b1, 3, none⟩)), (4, .pointer (some ⟨b1, 0, none⟩)), (3, .agg #[.int .i64 z.y.op, .int .i64 z.y.ov, .int .i64 z.y.oc]), (2, .pointer (some ⟨z.wb, 3, none⟩)), (1, .pointer (some ⟨z.wb, 0, none⟩)), (0, .pointer (some ⟨z.wb, 0, none⟩))]) (by kernel_rfl) ?_
 refine VT_load (d := 85) (t := 43) (a := ⟨b1, 5, none⟩) (v := .agg (iA .u8 ps)) (by kernel_rfl) (by kernel_rfl) ?_ ?_
 ·intro w17 hr8
  replace ho1 := ho1.step hr8 (by (try simp only); omega)
  exact (Loads.cellP ho1 hps (by kernel_rfl))
 refine VT_end ?_
 intro w18 hs7
 replace hS := passF_no hS hs7
 replace hoa := hoa.no hs7
 replace ho1 := ho1.no hs7
 replace hn1 := NdP.no hn1 hs7
 replace ho2 := ho2.no hs7
 refine VL_keep [79, 82, 83, 85] [(79, .agg #[.int .i64 z.y.op, .int .i64 z.y.ov, .int .i64 z.y.oc]), (82, .int .i64 hh.p), (83, .int .i64 hh.l), (85, .agg (iA .u8 ps))] (by kernel_rfl) ?_
 have hzl27 := ho1.lt
 refine VL_call (d := 86) (f := 82) (args := #[.agg #[.int .i64 z.y.op, .int .i64 z.y.ov, .int .i64 z.y.oc], .int .i64 hh.p, .int .i64 hh.l, .agg (iA .u8 ps)]) (by kernel_rfl) (by kernel_rfl) (by kernel_rfl) Tryz.call82 (send_yes z.y.op z.y.ov z.y.oc hh.p hh.l ps _ hps hok) ?_
 rintro _ w19 ⟨A1, c1, rfl, hr9, hc2⟩
 replace hS := passF_no hS hc2
 replace hoa := hoa.no hc2
 replace ho1 := ho1.no hc2
 replace hn1 := NdP.no hn1 hc2
 replace ho2 := ho2.no hc2
 obtain ⟨base1, hbase1E⟩ : ∃ x, x = w18.heap.size := ⟨_, rfl⟩
 rw [← hbase1E] at hr9
 have hzl32 := ho1.lt
 refine VL_bs (d := 87) (e := 67) (c := #[.int .i64 z.y.op, .slice A1 53 c1]) (len := 1) (by kernel_rfl) (by kernel_rfl) ?_
 intro b2 w20 hn2
 replace hS := passF_no hS (hn2.step No)
 replace hoa := hoa.no (hn2.step No)
 replace hn1 := NdP.no hn1 (hn2.step No)
 replace ho2 := ho2.no (hn2.step No)
 replace hr9 := hr9.no (hn2.step No)
 have ho3 := hn2.own
 have hzhn2 := hn2.size
 have hqhn2 := hn2.eqb
 refine VL_pure 13 [8] [(8, .slice (some ⟨b2, 0, none⟩) 1 1)] (by kernel_rfl) rfl ?_
 refine VL_end (by kernel_rfl) ?_
 refine VQ_next ?_
 refine VC_ret ?_
 refine VQ_ret1 (.slice (some ⟨b2, 0, none⟩) 1 1) (.inr rfl) rfl rfl ?_
 have hcz := hpi.cn 6
 obtain ⟨oo1, oo2, oo3, oo4⟩ := h.out_ok z1
 have hX := h.passed (cn9 := bump st.cn 6) (al9 := z.y.al) hz hS (Own.cast ho2 TPl6ab) hn1 (fun q hq => (hX9 q hq).imp id (fun h9 => by omega)) TPl6ac (fun a b d => findC_setC (f := newR st.now hh.l) hn0.li.one (fun x => ⟨rfl, rfl, rfl⟩) a b d) (bump_le hpi.cn 6) hoa (hpi.als z.y TPl6ad)
 have hN : PNext w p X XB lo { st with L := verN st.L z.y.op z.y.ov z.y.oc st.now hh.l, cn := bump st.cn 6, W := setW st.W q v c (setAl (z.y.al)) } (n + 1) w20 := ⟨_, XB, ⟨_, hX⟩, fun k9 hk9 => by rcases hk9 with ⟨a, _⟩ | a; exact .inl a; exact (hX9 k9 a).imp (fun h9 => h.inX k9 (.inl h9)) (fun h9 => by omega), fun k9 hk9 => .inl hk9, Step.mono hS (fun k9 hk9 => by rcases hk9 with a | a | a; exact h.inX k9 (.inl a); rw [a]; exact h.inp.1; rw [a]; exact h.inX _ (.inr (.inr (.inr ⟨z, z1, .inr rfl⟩))))⟩
 exact ⟨⟨b2, A1, c1, rfl, ho3, by omega, Rw.low hr9 (by omega)⟩, hN⟩

theorem pass_drop1 (p lo : Nat) (X XB : Nat → Prop) (g : PlG) (st : PS) (n : Nat) (w : World) (q v c : Int) (z : Wi) (hz : findWi g.wi q v c = some z) (hh : Hd) (ps : List Int) (hps : ps.length = 48) (hk : hdOk hh = true) (hn : n < 1152921504606846976) (hv : verV st.L z.y.op z.y.ov z.y.oc st.now hh.l = 3) (h : PnX w p X XB lo g st n)  :
  CV Tryz.prog 70 #[.pointer (some ⟨p, 0, none⟩), .pointer (some ⟨z.wb, 0, none⟩), .agg (cellA hh ps), .bool true] w (fun x w1 => x = .slice none 0 0 ∧ PNext w p X XB lo { st with L := verN st.L z.y.op z.y.ov z.y.oc st.now hh.l, cn := bump st.cn 8, W := setW st.W q v c (setAl (z.y.al)) } (n + 1) w1) := by
 obtain ⟨z1, z2, z3, z4⟩ := findWi_some hz
 obtain ⟨how, hoa⟩ := h.s.way z z1
 have hS : Step (passF g p z.ab) w w := Step.refl _ _
 have hp := h.own
 have hpi := h.pi
 have hn0 := h.s.node
 have hNX : ∀ k, g.Xn k → k < w.heap.size := fun k hk => hn0.ltX hk
 have hNp : ¬ g.Xn p := fun e => h.n_p (.inl e)
 have t1 := h.t_p
 have t5 := h.s.t_ab z1
 have t6 := h.s.t_wb z1
 have hNw : ¬ g.Xn z.wb := fun e => by have := h.s.t_nd e; omega
 have hNa : ¬ g.Xn z.ab := fun e => by have := h.s.t_nd e; omega
 have hpa : p ≠ z.ab := fun e => by rw [e] at t1; omega
 have hwa : z.wb ≠ z.ab := fun e => by rw [e] at t6; omega
 refine CV_enter Tryz.f70 _ 88 [(0, .pointer (some ⟨p, 0, none⟩)), (1, .pointer (some ⟨z.wb, 0, none⟩)), (2, .agg (cellA hh ps)), (3, .bool true)] Tryz.func70 rfl rfl (by kernel_rfl) rfl ?_
 refine VC_seq ?_
 refine VC_region ?_
 refine VL_box (d := 6) (t := 45) (c := (cellA hh ps)) (by kernel_rfl) (by kernel_rfl) ?_
 intro b1 w1 hn1
 replace hS := passF_no hS (hn1.step No)
 replace hp := hp.no (hn1.step No)
 replace how := how.no (hn1.step No)
 replace hoa := hoa.no (hn1.step No)
 replace hn0 := NdP.no hn0 (hn1.step No)
 have ho1 := hn1.own
 have hzhn1 := hn1.size
 have hqhn1 := hn1.eqb
 refine VL_pure 2 [0, 1, 3, 6] [(0, .pointer (some ⟨p, 0, none⟩)), (1, .pointer (some ⟨z.wb, 0, none⟩)), (3, .bool true), (6, .pointer (some ⟨b1, 0, none⟩))] (by kernel_rfl) rfl ?_
 refine VL_end (by kernel_rfl) ?_
 refine VQ_next ?_
 refine VC_seq ?_
 refine VC_region ?_
 refine VL_pure 2 [0, 1, 3, 6, 13] [(0, .pointer (some ⟨p, 0, none⟩)), (1, .pointer (some ⟨z.wb, 0, none⟩)), (3, .bool true), (6, .pointer (some ⟨b1, 0, none⟩)), (13, .pointer (some ⟨b1, 4, none⟩))] (by kernel_rfl) rfl ?_
 refine VL_load (d := 14) (t := 3) (a := ⟨b1, 4, none⟩) (v := .int .i64 hh.l) (by kernel_rfl) (by kernel_rfl) (Loads.cellF (i := 4) ho1 (by kernel_rfl) (by decide) rfl) ?_
 refine VL_pure 4 [0, 1, 3, 6, 9] [(0, .pointer (some ⟨p, 0, none⟩)), (1, .pointer (some ⟨z.wb, 0, none⟩)), (3, .bool true), (6, .pointer (some ⟨b1, 0, none⟩)), (9, .int .i64 hh.l)] (by kernel_rfl) rfl ?_
 refine VL_end (by kernel_rfl) ?_
 refine VQ_next ?_
 refine VC_seq ?_
 refine VC_seq ?_
 have hs1 := drew_step w1
 have hs1z : w1.heap.size = w1.drew.heap.size := rfl
 refine VC_text [[], [0], [0, 1], [0, 1, 2], [], [4], [4, 5], [4, 5, 6], [], [8], [8, 9], [8, 9, 10], [], [12], [12, 13], [0, 1, 2, 3, 4, 5, 6, 7, 8, 9, 10, 11, 12, 13, 14], [0, 1, 2, 3, 4, 5, 6, 7, 8, 9, 10, 11, 12, 13, 14, 15], [0, 1, 2, 3, 4, 5, 6, 7, 8, 9, 10, 11, 12, 13, 14, 15, 16], [0, 1, 2, 3, 4, 5, 6, 7, 8, 9, 10, 11, 12, 13, 14, 15, 16], [0, 1, 2, 3, 4, 5, 6, 7, 8, 9, 10, 11, 12, 13, 14, 15, 16, 17], [0, 1, 2, 3, 4, 5, 6, 7, 8, 9, 10, 11, 12, 13, 14, 15, 16, 17, 18, 19]] 20 (fun x y => Step (fun k => g.Xn k ∨ w1.heap.size ≤ k) x y) [15] [0, 1, 2, 3, 4, 5, 6, 7, 8, 9, 10, 11, 12, 13, 14, 15, 16, 17, 18, 19] (by kernel_rfl) (by kernel_rfl) (by kernel_rfl) (by kernel_rfl) (fun x => Step.refl _ x) (fun h k => Step.trans h k) Step.weak ?_
 generalize w1.drew = w2 at hs1 hs1z ⊢
 replace hS := passF_no hS hs1
 replace hp := hp.no hs1
 replace how := how.no hs1
 replace hoa := hoa.no hs1
 replace hn0 := NdP.no hn0 hs1
 replace ho1 := ho1.no hs1
 refine VT_pures 3 (kn' := [(2, .pointer (some ⟨p, 0, none⟩)), (1, .pointer (some ⟨p, 0, none⟩)), (0, .pointer (some ⟨p, 0, none⟩))]) (by kernel_rfl) ?_
 refine VT_load (d := 19) (t := 121) (a := ⟨p, 0, none⟩) (v := .pointer (some ⟨g.nd, 0, none⟩)) (by kernel_rfl) (by kernel_rfl) ?_ ?_
 ·intro w3 hr1
  have hcut1 := Step.cut hr1 (by omega)
  replace hp := hp.step hcut1 hNp
  exact (Loads.own1 hp (by kernel_rfl) (by rfl))
 refine VT_pures 3 (kn' := [(6, .pointer (some ⟨z.wb, 3, none⟩)), (5, .pointer (some ⟨z.wb, 0, none⟩)), (4, .pointer (some ⟨z.wb, 0, none⟩)), (3, .pointer (some ⟨g.nd, 0, none⟩)), (2, .pointer (some ⟨p, 0, none⟩)), (1, .pointer (some ⟨p, 0, none⟩)), (0, .pointer (some ⟨p, 0, none⟩))]) (by kernel_rfl) ?_
 refine VT_load (d := 23) (t := 34) (a := ⟨z.wb, 3, none⟩) (v := .agg #[.int .i64 z.y.op, .int .i64 z.y.ov, .int .i64 z.y.oc]) (by kernel_rfl) (by kernel_rfl) ?_ ?_
 ·intro w4 hr2
  have hcut2 := Step.cut hr2 (by omega)
  replace how := how.step hcut2 hNw
  exact (Loads.ownL how (n := 3) (by kernel_rfl) (by kernel_rfl) (by kernel_rfl))
 refine VT_pures 3 (kn' := [(10, .pointer (some ⟨p, 10, none⟩)), (9, .pointer (some ⟨p, 0, none⟩)), (8, .pointer (some ⟨p, 0, none⟩)), (7, .agg #[.int .i64 z.y.op, .int .i64 z.y.ov, .int .i64 z.y.oc]), (6, .pointer (some ⟨z.wb, 3, none⟩)), (5, .pointer (some ⟨z.wb, 0, none⟩)), (4, .pointer (some ⟨z.wb, 0, none⟩)), (3, .pointer (some ⟨g.nd, 0, none⟩)), (2, .pointer (some ⟨p, 0, none⟩)), (1, .pointer (some ⟨p, 0, none⟩)), (0, .pointer (some ⟨p, 0, none⟩))]) (by kernel_rfl) ?_
 refine VT_load (d := 27) (t := 3) (a := ⟨p, 10, none⟩) (v := .int .i64 st.now) (by kernel_rfl) (by kernel_rfl) ?_ ?_
 ·intro w5 hr3
  have hcut3 := Step.cut hr3 (by omega)
  replace hp := hp.step hcut3 hNp
  exact (Loads.own1 hp (by kernel_rfl) (by rfl))
 refine VT_pures 2 (kn' := [(13, .pointer (some ⟨b1, 4, none⟩)), (12, .pointer (some ⟨b1, 0, none⟩)), (11, .int .i64 st.now), (10, .pointer (some ⟨p, 10, none⟩)), (9, .pointer (some ⟨p, 0, none⟩)), (8, .pointer (some ⟨p, 0, none⟩)), (7, .agg #[.int .i64 z.y.op, .int .i64 z.y.ov, .int .i64 z.y.oc]), (6, .pointer (some ⟨z.wb, 3, none⟩)), (5, .pointer (some ⟨z.wb, 0, none⟩)), (4, .pointer (some ⟨z.wb, 0, none⟩)), (3, .pointer (some ⟨g.nd, 0, none⟩)), (2, .pointer (some ⟨p, 0, none⟩)), (1, .pointer (some ⟨p, 0, none⟩)), (0, .pointer (some ⟨p, 0, none⟩))]) (by kernel_rfl) ?_
 refine VT_load (d := 30) (t := 3) (a := ⟨b1, 4, none⟩) (v := .int .i64 hh.l) (by kernel_rfl) (by kernel_rfl) ?_ ?_
 ·intro w6 hr4
  have hcut4 := Step.cut hr4 (by omega)
  replace ho1 := ho1.step hcut4 (fun h8 => by have h7 := hNX _ h8; omega)
  exact (Loads.cellF (i := 4) ho1 (by kernel_rfl) (by decide) rfl)
 refine VT_chain (by kernel_rfl) ?_
 intro w7 hs2
 have hzhs2 := hs2.size
 replace hS := passF_no hS hs2
 replace hp := hp.no hs2
 replace hoa := hoa.no hs2
 replace hn0 := NdP.no hn0 hs2
 refine VTc_call (d := 31) (f := 125) (args := #[.pointer (some ⟨g.nd, 0, none⟩), .agg #[.int .i64 z.y.op, .int .i64 z.y.ov, .int .i64 z.y.oc], .int .i64 st.now, .int .i64 hh.l]) (by kernel_rfl) (by kernel_rfl) (by kernel_rfl) Tryz.call125 (nverdict hn0 z.y.op z.y.ov z.y.oc st.now hh.l) ?_ ?_
 ·rintro _ w8 ⟨rfl, X9, hn1, hX9, hc1⟩
  exact Step.mono hc1 TPl6aa
 rintro _ w8 ⟨rfl, X9, hn1, hX9, hc1⟩
 replace hS := Step.trans hS (Step.mono hc1 (fun i9 h9 => .inl h9))
 replace hp := hp.step hc1 hNp
 replace hoa := hoa.step hc1 hNa
 refine VT_pures 4 (kn' := [(19, .int .i64 (verV st.L z.y.op z.y.ov z.y.oc st.now hh.l)), (18, .bool ((findC st.L z.y.op z.y.ov z.y.oc).isSome)), (17, .int .i64 (verV st.L z.y.op z.y.ov z.y.oc st.now hh.l)), (16, .tuple #[.int .i64 (verV st.L z.y.op z.y.ov z.y.oc st.now hh.l), .bool ((findC st.L z.y.op z.y.ov z.y.oc).isSome)]), (15, .tuple #[.int .i64 (verV st.L z.y.op z.y.ov z.y.oc st.now hh.l), .bool ((findC st.L z.y.op z.y.ov z.y.oc).isSome)]), (14, .int .i64 hh.l), (13, .pointer (some ⟨b1, 4, none⟩)), (12, .pointer (some ⟨b1, 0, none⟩)), (11, .int .i64 st.now), (10, .pointer (some ⟨p, 10, none⟩)), (9, .pointer (some ⟨p, 0, none⟩)), (8, .pointer (some ⟨p, 0, none⟩)), (7, .agg #[.int .i64 z.y.op, .int .i64 z.y.ov, .int .i64 z.y.oc]), (6, .pointer (some ⟨z.wb, 3, none⟩)), (5, .pointer (some ⟨z.wb, 0, none⟩)), (4, .pointer (some ⟨z.wb, 0, none⟩)), (3, .pointer (some ⟨g.nd, 0, none⟩)), (2, .pointer (some ⟨p, 0, none⟩)), (1, .pointer (some ⟨p, 0, none⟩)), (0, .pointer (some ⟨p, 0, none⟩))]) (by kernel_rfl) ?_
 refine VT_end ?_
 intro w9 hs3
 replace hS := passF_no hS hs3
 replace hp := hp.no hs3
 replace hoa := hoa.no hs3
 replace hn1 := NdP.no hn1 hs3
 refine VL_keep [0, 1, 3, 6, 9, 33, 10] [(0, .pointer (some ⟨p, 0, none⟩)), (1, .pointer (some ⟨z.wb, 0, none⟩)), (3, .bool true), (6, .pointer (some ⟨b1, 0, none⟩)), (9, .int .i64 hh.l), (33, .bool ((findC st.L z.y.op z.y.ov z.y.oc).isSome)), (10, .int .i64 (verV st.L z.y.op z.y.ov z.y.oc st.now hh.l))] (by kernel_rfl) ?_
 refine VL_pure 21 [0, 1, 3, 6, 9, 10] [(0, .pointer (some ⟨p, 0, none⟩)), (1, .pointer (some ⟨z.wb, 0, none⟩)), (3, .bool true), (6, .pointer (some ⟨b1, 0, none⟩)), (9, .int .i64 hh.l), (10, .int .i64 (verV st.L z.y.op z.y.ov z.y.oc st.now hh.l))] (by kernel_rfl) rfl ?_
 refine VL_end (by kernel_rfl) ?_
 refine VQ_next ?_
 refine VC_seq ?_
 refine VC_region ?_
 refine VL_pure 1 [0, 1, 3, 6, 9, 34] [(0, .pointer (some ⟨p, 0, none⟩)), (1, .pointer (some ⟨z.wb, 0, none⟩)), (3, .bool true), (6, .pointer (some ⟨b1, 0, none⟩)), (9, .int .i64 hh.l), (34, .int .i64 (verV st.L z.y.op z.y.ov z.y.oc st.now hh.l))] (by kernel_rfl) rfl ?_
 refine VL_end (by kernel_rfl) ?_
 refine VQ_next ?_
 refine VC_block ?_
 refine VC_seq ?_
 refine VC_region ?_
 refine VL_pure 2 [0, 1, 3, 6, 9, 34, 44] [(0, .pointer (some ⟨p, 0, none⟩)), (1, .pointer (some ⟨z.wb, 0, none⟩)), (3, .bool true), (6, .pointer (some ⟨b1, 0, none⟩)), (9, .int .i64 hh.l), (34, .int .i64 (verV st.L z.y.op z.y.ov z.y.oc st.now hh.l)), (44, .bool ((verV st.L z.y.op z.y.ov z.y.oc st.now hh.l) == 3))] (by kernel_rfl) rfl ?_
 refine VL_end (by kernel_rfl) ?_
 refine VQ_next ?_
 refine VC_is (b := (verV st.L z.y.op z.y.ov z.y.oc st.now hh.l) == 3) true (by kernel_rfl) (beq_iff_eq.2 hv) ?_
 refine VC_ite_true ?_
 refine VC_seq ?_
 have hs4 := drew_step w9
 have hs4z : w9.heap.size = w9.drew.heap.size := rfl
 refine VC_text [[], [0], [0, 1], [0, 1, 2], [0, 1, 2, 3], [0, 1, 2, 3, 4], [0], [0, 6], [0, 1, 2, 3, 4, 5, 6, 7], [0, 1, 2, 3, 4, 5, 6, 7, 8]] 8 (fun x y => Step (fun k => w9.heap.size ≤ k) x y) [] [0, 1, 2, 3, 4, 5, 6, 7] (by kernel_rfl) (by kernel_rfl) (by kernel_rfl) (by kernel_rfl) (fun x => Step.refl _ x) (fun h k => Step.trans h k) Step.weak ?_
 have hzl15 := hp.lt
 generalize w9.drew = w10 at hs4 hs4z ⊢
 replace hS := passF_no hS hs4
 replace hp := hp.no hs4
 replace hoa := hoa.no hs4
 replace hn1 := NdP.no hn1 hs4
 refine VT_pures 3 (kn' := [(2, .pointer (some ⟨p, 11, none⟩)), (1, .pointer (some ⟨p, 0, none⟩)), (0, .pointer (some ⟨p, 0, none⟩))]) (by kernel_rfl) ?_
 refine VT_index (d := 49) (b := p) (o := 11) (len := 9) (sz := 1) (mm := 8) (by kernel_rfl) (by kernel_rfl) 8 (by rfl) (by omega) 19 (by omega) ?_
 refine VT_load (d := 50) (t := 3) (a := ⟨p, 19, none⟩) (v := .int .i64 (st.cn 8)) (by kernel_rfl) (by kernel_rfl) ?_ ?_
 ·intro w11 hr5
  replace hp := hp.step hr5 (by (try simp only); omega)
  exact (Loads.own1 hp (by kernel_rfl) (by rfl))
 refine VT_pures 3 (kn' := [(7, .pointer (some ⟨p, 11, none⟩)), (6, .pointer (some ⟨p, 0, none⟩)), (5, .int .i64 (IntKind.wrap .i64 ((st.cn 8) + 1))), (4, .int .i64 (st.cn 8)), (3, .pointer (some ⟨p, 19, none⟩)), (2, .pointer (some ⟨p, 11, none⟩)), (1, .pointer (some ⟨p, 0, none⟩)), (0, .pointer (some ⟨p, 0, none⟩))]) (by kernel_rfl) ?_
 refine VT_end ?_
 intro w12 hs5
 replace hS := passF_no hS hs5
 replace hp := hp.no hs5
 replace hoa := hoa.no hs5
 replace hn1 := NdP.no hn1 hs5
 refine VL_keep [51, 53] [(51, .int .i64 (IntKind.wrap .i64 ((st.cn 8) + 1))), (53, .pointer (some ⟨p, 11, none⟩))] (by kernel_rfl) ?_
 refine VL_index (d := 54) (b := p) (o := 11) (len := 9) (sz := 1) (m := 8) (by kernel_rfl) (by kernel_rfl) 8 (by rfl) (by omega) 19 (by omega) ?_
 refine VL_store (b := p) (o := 19) (vs := [.int .i64 (IntKind.wrap .i64 ((st.cn 8) + 1))]) (by kernel_rfl) (by kernel_rfl) hp (Nat.le_of_ble_eq_true (by kernel_rfl)) ?_
 intro w13 hw1
 replace hS := Step.trans hS (Step.mono hw1.step (fun i9 h9 => .inr (.inl h9)))
 replace hoa := hoa.step hw1.step (show ¬ z.ab = p by omega)
 replace hn1 := NdP.blk hn1 hp (by decide) hw1.step
 have ho2 : Own w13 p #[.pointer (some ⟨g.nd, 0, none⟩), .slice g.la st.lk.length g.lc, .pointer (some ⟨g.tb, 0, none⟩), .map (some g.wm), .map (some g.cm), .int .i64 st.tm.s, .int .i64 st.tm.c, .int .i64 st.tm.r, .int .i64 st.wait, .int .i64 ((g.next : Nat) : Int), .int .i64 st.now, .int .i64 (st.cn 0), .int .i64 (st.cn 1), .int .i64 (st.cn 2), .int .i64 (st.cn 3), .int .i64 (st.cn 4), .int .i64 (st.cn 5), .int .i64 (st.cn 6), .int .i64 (st.cn 7), .int .i64 (IntKind.wrap .i64 ((st.cn 8) + 1))] 129 := Own.cast hw1.own (by kernel_rfl)
 refine VL_end (by kernel_rfl) ?_
 refine VQ_next ?_
 refine VC_seq ?_
 refine VC_region ?_
 refine VL_pure 1 [8] [(8, .slice none 0 0)] (by kernel_rfl) rfl ?_
 refine VL_end (by kernel_rfl) ?_
 refine VQ_next ?_
 refine VC_ret ?_
 refine VQ_block_ret ?_
 refine VQ_then_ret ?_
 refine VQ_ret1 (.slice none 0 0) (.inr rfl) rfl rfl ?_
 have hcz := hpi.cn 8
 obtain ⟨oo1, oo2, oo3, oo4⟩ := h.out_ok z1
 have hX := h.passed (cn9 := bump st.cn 8) (al9 := z.y.al) hz hS (Own.cast ho2 TPl6ab) hn1 (fun q hq => (hX9 q hq).imp id (fun h9 => by omega)) TPl6ac (fun a b d => findC_setC (f := newR st.now hh.l) hn0.li.one (fun x => ⟨rfl, rfl, rfl⟩) a b d) (bump_le hpi.cn 8) hoa (hpi.als z.y TPl6ad)
 have hN : PNext w p X XB lo { st with L := verN st.L z.y.op z.y.ov z.y.oc st.now hh.l, cn := bump st.cn 8, W := setW st.W q v c (setAl (z.y.al)) } (n + 1) w13 := ⟨_, XB, ⟨_, hX⟩, fun k9 hk9 => by rcases hk9 with ⟨a, _⟩ | a; exact .inl a; exact (hX9 k9 a).imp (fun h9 => h.inX k9 (.inl h9)) (fun h9 => by omega), fun k9 hk9 => .inl hk9, Step.mono hS (fun k9 hk9 => by rcases hk9 with a | a | a; exact h.inX k9 (.inl a); rw [a]; exact h.inp.1; rw [a]; exact h.inX _ (.inr (.inr (.inr ⟨z, z1, .inr rfl⟩))))⟩
 exact ⟨rfl, hN⟩

theorem pass_tag1 (p lo : Nat) (X XB : Nat → Prop) (g : PlG) (st : PS) (n : Nat) (w : World) (q v c : Int) (z : Wi) (hz : findWi g.wi q v c = some z) (hh : Hd) (ps : List Int) (hps : ps.length = 48) (hk : hdOk hh = true) (hn : n < 1152921504606846976) (hv : verV st.L z.y.op z.y.ov z.y.oc st.now hh.l = 2) (h : PnX w p X XB lo g st n)  :
  CV Tryz.prog 70 #[.pointer (some ⟨p, 0, none⟩), .pointer (some ⟨z.wb, 0, none⟩), .agg (cellA hh ps), .bool true] w (fun x w1 => Out1 w w1 x z.y.op (buildL ⟨0, z.y.ov, z.y.oc, hh.p, 1⟩ ps) ∧ PNext w p X XB lo { st with L := verN st.L z.y.op z.y.ov z.y.oc st.now hh.l, cn := bump st.cn 7, W := setW st.W q v c (setAl (userA z.y.al)) } (n + 1) w1) := by
 obtain ⟨z1, z2, z3, z4⟩ := findWi_some hz
 obtain ⟨how, hoa⟩ := h.s.way z z1
 have hS : Step (passF g p z.ab) w w := Step.refl _ _
 have hp := h.own
 have hpi := h.pi
 have hn0 := h.s.node
 have hNX : ∀ k, g.Xn k → k < w.heap.size := fun k hk => hn0.ltX hk
 have hNp : ¬ g.Xn p := fun e => h.n_p (.inl e)
 have t1 := h.t_p
 have t5 := h.s.t_ab z1
 have t6 := h.s.t_wb z1
 have hNw : ¬ g.Xn z.wb := fun e => by have := h.s.t_nd e; omega
 have hNa : ¬ g.Xn z.ab := fun e => by have := h.s.t_nd e; omega
 have hpw : p ≠ z.wb := fun e => by rw [e] at t1; omega
 have hpa : p ≠ z.ab := fun e => by rw [e] at t1; omega
 have hwa : z.wb ≠ z.ab := fun e => by rw [e] at t6; omega
 have hpl := hp.lt
 have hal2 := hoa.lt
 have hok := h.out_hd z1 hk (l := 1) (.inr rfl)
 refine CV_enter Tryz.f70 _ 88 [(0, .pointer (some ⟨p, 0, none⟩)), (1, .pointer (some ⟨z.wb, 0, none⟩)), (2, .agg (cellA hh ps)), (3, .bool true)] Tryz.func70 rfl rfl (by kernel_rfl) rfl ?_
 refine VC_seq ?_
 refine VC_region ?_
 refine VL_box (d := 6) (t := 45) (c := (cellA hh ps)) (by kernel_rfl) (by kernel_rfl) ?_
 intro b1 w1 hn1
 replace hS := passF_no hS (hn1.step No)
 replace hp := hp.no (hn1.step No)
 replace how := how.no (hn1.step No)
 replace hoa := hoa.no (hn1.step No)
 replace hn0 := NdP.no hn0 (hn1.step No)
 have ho1 := hn1.own
 have hzhn1 := hn1.size
 have hqhn1 := hn1.eqb
 refine VL_pure 2 [0, 1, 3, 6] [(0, .pointer (some ⟨p, 0, none⟩)), (1, .pointer (some ⟨z.wb, 0, none⟩)), (3, .bool true), (6, .pointer (some ⟨b1, 0, none⟩))] (by kernel_rfl) rfl ?_
 refine VL_end (by kernel_rfl) ?_
 refine VQ_next ?_
 refine VC_seq ?_
 refine VC_region ?_
 refine VL_pure 2 [0, 1, 3, 6, 13] [(0, .pointer (some ⟨p, 0, none⟩)), (1, .pointer (some ⟨z.wb, 0, none⟩)), (3, .bool true), (6, .pointer (some ⟨b1, 0, none⟩)), (13, .pointer (some ⟨b1, 4, none⟩))] (by kernel_rfl) rfl ?_
 refine VL_load (d := 14) (t := 3) (a := ⟨b1, 4, none⟩) (v := .int .i64 hh.l) (by kernel_rfl) (by kernel_rfl) (Loads.cellF (i := 4) ho1 (by kernel_rfl) (by decide) rfl) ?_
 refine VL_pure 4 [0, 1, 3, 6, 9] [(0, .pointer (some ⟨p, 0, none⟩)), (1, .pointer (some ⟨z.wb, 0, none⟩)), (3, .bool true), (6, .pointer (some ⟨b1, 0, none⟩)), (9, .int .i64 hh.l)] (by kernel_rfl) rfl ?_
 refine VL_end (by kernel_rfl) ?_
 refine VQ_next ?_
 refine VC_seq ?_
 refine VC_seq ?_
 have hs1 := drew_step w1
 have hs1z : w1.heap.size = w1.drew.heap.size := rfl
 refine VC_text [[], [0], [0, 1], [0, 1, 2], [], [4], [4, 5], [4, 5, 6], [], [8], [8, 9], [8, 9, 10], [], [12], [12, 13], [0, 1, 2, 3, 4, 5, 6, 7, 8, 9, 10, 11, 12, 13, 14], [0, 1, 2, 3, 4, 5, 6, 7, 8, 9, 10, 11, 12, 13, 14, 15], [0, 1, 2, 3, 4, 5, 6, 7, 8, 9, 10, 11, 12, 13, 14, 15, 16], [0, 1, 2, 3, 4, 5, 6, 7, 8, 9, 10, 11, 12, 13, 14, 15, 16], [0, 1, 2, 3, 4, 5, 6, 7, 8, 9, 10, 11, 12, 13, 14, 15, 16, 17], [0, 1, 2, 3, 4, 5, 6, 7, 8, 9, 10, 11, 12, 13, 14, 15, 16, 17, 18, 19]] 20 (fun x y => Step (fun k => g.Xn k ∨ w1.heap.size ≤ k) x y) [15] [0, 1, 2, 3, 4, 5, 6, 7, 8, 9, 10, 11, 12, 13, 14, 15, 16, 17, 18, 19] (by kernel_rfl) (by kernel_rfl) (by kernel_rfl) (by kernel_rfl) (fun x => Step.refl _ x) (fun h k => Step.trans h k) Step.weak ?_
 generalize w1.drew = w2 at hs1 hs1z ⊢
 replace hS := passF_no hS hs1
 replace hp := hp.no hs1
 replace how := how.no hs1
 replace hoa := hoa.no hs1
 replace hn0 := NdP.no hn0 hs1
 replace ho1 := ho1.no hs1
 refine VT_pures 3 (kn' := [(2, .pointer (some ⟨p, 0, none⟩)), (1, .pointer (some ⟨p, 0, none⟩)), (0, .pointer (some ⟨p, 0, none⟩))]) (by kernel_rfl) ?_
 refine VT_load (d := 19) (t := 121) (a := ⟨p, 0, none⟩) (v := .pointer (some ⟨g.nd, 0, none⟩)) (by kernel_rfl) (by kernel_rfl) ?_ ?_
 ·intro w3 hr1
  have hcut1 := Step.cut hr1 (by omega)
  replace hp := hp.step hcut1 hNp
  exact (Loads.own1 hp (by kernel_rfl) (by rfl))
 refine VT_pures 3 (kn' := [(6, .pointer (some ⟨z.wb, 3, none⟩)), (5, .pointer (some ⟨z.wb, 0, none⟩)), (4, .pointer (some ⟨z.wb, 0, none⟩)), (3, .pointer (some ⟨g.nd, 0, none⟩)), (2, .pointer (some ⟨p, 0, none⟩)), (1, .pointer (some ⟨p, 0, none⟩)), (0, .pointer (some ⟨p, 0, none⟩))]) (by kernel_rfl) ?_
 refine VT_load (d := 23) (t := 34) (a := ⟨z.wb, 3, none⟩) (v := .agg #[.int .i64 z.y.op, .int .i64 z.y.ov, .int .i64 z.y.oc]) (by kernel_rfl) (by kernel_rfl) ?_ ?_
 ·intro w4 hr2
  have hcut2 := Step.cut hr2 (by omega)
  replace how := how.step hcut2 hNw
  exact (Loads.ownL how (n := 3) (by kernel_rfl) (by kernel_rfl) (by kernel_rfl))
 refine VT_pures 3 (kn' := [(10, .pointer (some ⟨p, 10, none⟩)), (9, .pointer (some ⟨p, 0, none⟩)), (8, .pointer (some ⟨p, 0, none⟩)), (7, .agg #[.int .i64 z.y.op, .int .i64 z.y.ov, .int .i64 z.y.oc]), (6, .pointer (some ⟨z.wb, 3, none⟩)), (5, .pointer (some ⟨z.wb, 0, none⟩)), (4, .pointer (some ⟨z.wb, 0, none⟩)), (3, .pointer (some ⟨g.nd, 0, none⟩)), (2, .pointer (some ⟨p, 0, none⟩)), (1, .pointer (some ⟨p, 0, none⟩)), (0, .pointer (some ⟨p, 0, none⟩))]) (by kernel_rfl) ?_
 refine VT_load (d := 27) (t := 3) (a := ⟨p, 10, none⟩) (v := .int .i64 st.now) (by kernel_rfl) (by kernel_rfl) ?_ ?_
 ·intro w5 hr3
  have hcut3 := Step.cut hr3 (by omega)
  replace hp := hp.step hcut3 hNp
  exact (Loads.own1 hp (by kernel_rfl) (by rfl))
 refine VT_pures 2 (kn' := [(13, .pointer (some ⟨b1, 4, none⟩)), (12, .pointer (some ⟨b1, 0, none⟩)), (11, .int .i64 st.now), (10, .pointer (some ⟨p, 10, none⟩)), (9, .pointer (some ⟨p, 0, none⟩)), (8, .pointer (some ⟨p, 0, none⟩)), (7, .agg #[.int .i64 z.y.op, .int .i64 z.y.ov, .int .i64 z.y.oc]), (6, .pointer (some ⟨z.wb, 3, none⟩)), (5, .pointer (some ⟨z.wb, 0, none⟩)), (4, .pointer (some ⟨z.wb, 0, none⟩)), (3, .pointer (some ⟨g.nd, 0, none⟩)), (2, .pointer (some ⟨p, 0, none⟩)), (1, .pointer (some ⟨p, 0, none⟩)), (0, .pointer (some ⟨p, 0, none⟩))]) (by kernel_rfl) ?_
 refine VT_load (d := 30) (t := 3) (a := ⟨b1, 4, none⟩) (v := .int .i64 hh.l) (by kernel_rfl) (by kernel_rfl) ?_ ?_
 ·intro w6 hr4
  have hcut4 := Step.cut hr4 (by omega)
  replace ho1 := ho1.step hcut4 (fun h8 => by have h7 := hNX _ h8; omega)
  exact (Loads.cellF (i := 4) ho1 (by kernel_rfl) (by decide) rfl)
 refine VT_chain (by kernel_rfl) ?_
 intro w7 hs2
 have hzhs2 := hs2.size
 replace hS := passF_no hS hs2
 replace hp := hp.no hs2
 replace how := how.no hs2
 replace hoa := hoa.no hs2
 replace hn0 := NdP.no hn0 hs2
 replace ho1 := ho1.no hs2
 refine VTc_call (d := 31) (f := 125) (args := #[.pointer (some ⟨g.nd, 0, none⟩), .agg #[.int .i64 z.y.op, .int .i64 z.y.ov, .int .i64 z.y.oc], .int .i64 st.now, .int .i64 hh.l]) (by kernel_rfl) (by kernel_rfl) (by kernel_rfl) Tryz.call125 (nverdict hn0 z.y.op z.y.ov z.y.oc st.now hh.l) ?_ ?_
 ·rintro _ w8 ⟨rfl, X9, hn1, hX9, hc1⟩
  exact Step.mono hc1 TPl6aa
 rintro _ w8 ⟨rfl, X9, hn1, hX9, hc1⟩
 replace hS := Step.trans hS (Step.mono hc1 (fun i9 h9 => .inl h9))
 replace hp := hp.step hc1 hNp
 replace how := how.step hc1 hNw
 replace hoa := hoa.step hc1 hNa
 replace ho1 := ho1.step hc1 (fun h8 => by have h7 := hNX _ h8; omega)
 refine VT_pures 4 (kn' := [(19, .int .i64 (verV st.L z.y.op z.y.ov z.y.oc st.now hh.l)), (18, .bool ((findC st.L z.y.op z.y.ov z.y.oc).isSome)), (17, .int .i64 (verV st.L z.y.op z.y.ov z.y.oc st.now hh.l)), (16, .tuple #[.int .i64 (verV st.L z.y.op z.y.ov z.y.oc st.now hh.l), .bool ((findC st.L z.y.op z.y.ov z.y.oc).isSome)]), (15, .tuple #[.int .i64 (verV st.L z.y.op z.y.ov z.y.oc st.now hh.l), .bool ((findC st.L z.y.op z.y.ov z.y.oc).isSome)]), (14, .int .i64 hh.l), (13, .pointer (some ⟨b1, 4, none⟩)), (12, .pointer (some ⟨b1, 0, none⟩)), (11, .int .i64 st.now), (10, .pointer (some ⟨p, 10, none⟩)), (9, .pointer (some ⟨p, 0, none⟩)), (8, .pointer (some ⟨p, 0, none⟩)), (7, .agg #[.int .i64 z.y.op, .int .i64 z.y.ov, .int .i64 z.y.oc]), (6, .pointer (some ⟨z.wb, 3, none⟩)), (5, .pointer (some ⟨z.wb, 0, none⟩)), (4, .pointer (some ⟨z.wb, 0, none⟩)), (3, .pointer (some ⟨g.nd, 0, none⟩)), (2, .pointer (some ⟨p, 0, none⟩)), (1, .pointer (some ⟨p, 0, none⟩)), (0, .pointer (some ⟨p, 0, none⟩))]) (by kernel_rfl) ?_
 refine VT_end ?_
 intro w9 hs3
 replace hS := passF_no hS hs3
 replace hp := hp.no hs3
 replace how := how.no hs3
 replace hoa := hoa.no hs3
 replace ho1 := ho1.no hs3
 replace hn1 := NdP.no hn1 hs3
 refine VL_keep [0, 1, 3, 6, 9, 33, 10] [(0, .pointer (some ⟨p, 0, none⟩)), (1, .pointer (some ⟨z.wb, 0, none⟩)), (3, .bool true), (6, .pointer (some ⟨b1, 0, none⟩)), (9, .int .i64 hh.l), (33, .bool ((findC st.L z.y.op z.y.ov z.y.oc).isSome)), (10, .int .i64 (verV st.L z.y.op z.y.ov z.y.oc st.now hh.l))] (by kernel_rfl) ?_
 refine VL_pure 21 [0, 1, 3, 6, 9, 10] [(0, .pointer (some ⟨p, 0, none⟩)), (1, .pointer (some ⟨z.wb, 0, none⟩)), (3, .bool true), (6, .pointer (some ⟨b1, 0, none⟩)), (9, .int .i64 hh.l), (10, .int .i64 (verV st.L z.y.op z.y.ov z.y.oc st.now hh.l))] (by kernel_rfl) rfl ?_
 refine VL_end (by kernel_rfl) ?_
 refine VQ_next ?_
 refine VC_seq ?_
 refine VC_region ?_
 refine VL_pure 1 [0, 1, 3, 6, 9, 34] [(0, .pointer (some ⟨p, 0, none⟩)), (1, .pointer (some ⟨z.wb, 0, none⟩)), (3, .bool true), (6, .pointer (some ⟨b1, 0, none⟩)), (9, .int .i64 hh.l), (34, .int .i64 (verV st.L z.y.op z.y.ov z.y.oc st.now hh.l))] (by kernel_rfl) rfl ?_
 refine VL_end (by kernel_rfl) ?_
 refine VQ_next ?_
 refine VC_block ?_
 refine VC_seq ?_
 refine VC_region ?_
 refine VL_pure 2 [0, 1, 3, 6, 9, 34, 44] [(0, .pointer (some ⟨p, 0, none⟩)), (1, .pointer (some ⟨z.wb, 0, none⟩)), (3, .bool true), (6, .pointer (some ⟨b1, 0, none⟩)), (9, .int .i64 hh.l), (34, .int .i64 (verV st.L z.y.op z.y.ov z.y.oc st.now hh.l)), (44, .bool ((verV st.L z.y.op z.y.ov z.y.oc st.now hh.l) == 3))] (by kernel_rfl) rfl ?_
 refine VL_end (by kernel_rfl) ?_
 refine VQ_next ?_
 refine VC_is (b := (verV st.L z.y.op z.y.ov z.y.oc st.now hh.l) == 3) false (by kernel_rfl) (by rw [hv]; rfl) ?_
 refine VC_ite_false ?_
 refine VC_seq ?_
 refine VC_region ?_
 refine VL_pure 2 [0, 1, 3, 6, 9, 55] [(0, .pointer (some ⟨p, 0, none⟩)), (1, .pointer (some ⟨z.wb, 0, none⟩)), (3, .bool true), (6, .pointer (some ⟨b1, 0, none⟩)), (9, .int .i64 hh.l), (55, .bool ((verV st.L z.y.op z.y.ov z.y.oc st.now hh.l) == 2))] (by kernel_rfl) rfl ?_
 refine VL_end (by kernel_rfl) ?_
 refine VQ_next ?_
 refine VC_is (b := (verV st.L z.y.op z.y.ov z.y.oc st.now hh.l) == 2) true (by kernel_rfl) (beq_iff_eq.2 hv) ?_
 refine VC_ite_true ?_
 refine VC_seq ?_
 have hs4 := drew_step w9
 have hs4z : w9.heap.size = w9.drew.heap.size := rfl
 refine VC_text [[], [0], [0, 1], [0, 1, 2], [0, 1, 2, 3], [0, 1, 2, 3, 4], [0], [0, 6], [0, 1, 2, 3, 4, 5, 6, 7], [0, 1, 2, 3, 4, 5, 6, 7, 8]] 8 (fun x y => Step (fun k => w9.heap.size ≤ k) x y) [] [0, 1, 2, 3, 4, 5, 6, 7] (by kernel_rfl) (by kernel_rfl) (by kernel_rfl) (by kernel_rfl) (fun x => Step.refl _ x) (fun h k => Step.trans h k) Step.weak ?_
 have hzl15 := hp.lt
 generalize w9.drew = w10 at hs4 hs4z ⊢
 replace hS := passF_no hS hs4
 replace hp := hp.no hs4
 replace how := how.no hs4
 replace hoa := hoa.no hs4
 replace ho1 := ho1.no hs4
 replace hn1 := NdP.no hn1 hs4
 refine VT_pures 3 (kn' := [(2, .pointer (some ⟨p, 11, none⟩)), (1, .pointer (some ⟨p, 0, none⟩)), (0, .pointer (some ⟨p, 0, none⟩))]) (by kernel_rfl) ?_
 refine VT_index (d := 60) (b := p) (o := 11) (len := 9) (sz := 1) (mm := 7) (by kernel_rfl) (by kernel_rfl) 7 (by rfl) (by omega) 18 (by omega) ?_
 refine VT_load (d := 61) (t := 3) (a := ⟨p, 18, none⟩) (v := .int .i64 (st.cn 7)) (by kernel_rfl) (by kernel_rfl) ?_ ?_
 ·intro w11 hr5
  replace hp := hp.step hr5 (by (try simp only); omega)
  exact (Loads.own1 hp (by kernel_rfl) (by rfl))
 refine VT_pures 3 (kn' := [(7, .pointer (some ⟨p, 11, none⟩)), (6, .pointer (some ⟨p, 0, none⟩)), (5, .int .i64 (IntKind.wrap .i64 ((st.cn 7) + 1))), (4, .int .i64 (st.cn 7)), (3, .pointer (some ⟨p, 18, none⟩)), (2, .pointer (some ⟨p, 11, none⟩)), (1, .pointer (some ⟨p, 0, none⟩)), (0, .pointer (some ⟨p, 0, none⟩))]) (by kernel_rfl) ?_
 refine VT_end ?_
 intro w12 hs5
 replace hS := passF_no hS hs5
 replace hp := hp.no hs5
 replace how := how.no hs5
 replace hoa := hoa.no hs5
 replace ho1 := ho1.no hs5
 replace hn1 := NdP.no hn1 hs5
 refine VL_keep [0, 1, 3, 6, 62, 64] [(0, .pointer (some ⟨p, 0, none⟩)), (1, .pointer (some ⟨z.wb, 0, none⟩)), (3, .bool true), (6, .pointer (some ⟨b1, 0, none⟩)), (62, .int .i64 (IntKind.wrap .i64 ((st.cn 7) + 1))), (64, .pointer (some ⟨p, 11, none⟩))] (by kernel_rfl) ?_
 refine VL_index (d := 65) (b := p) (o := 11) (len := 9) (sz := 1) (m := 7) (by kernel_rfl) (by kernel_rfl) 7 (by rfl) (by omega) 18 (by omega) ?_
 refine VL_store (b := p) (o := 18) (vs := [.int .i64 (IntKind.wrap .i64 ((st.cn 7) + 1))]) (by kernel_rfl) (by kernel_rfl) hp (Nat.le_of_ble_eq_true (by kernel_rfl)) ?_
 intro w13 hw1
 replace hS := Step.trans hS (Step.mono hw1.step (fun i9 h9 => .inr (.inl h9)))
 replace how := how.step hw1.step (show ¬ z.wb = p by omega)
 replace hoa := hoa.step hw1.step (show ¬ z.ab = p by omega)
 replace ho1 := ho1.step hw1.step (show ¬ b1 = p by omega)
 replace hn1 := NdP.blk hn1 hp (by decide) hw1.step
 have ho2 : Own w13 p #[.pointer (some ⟨g.nd, 0, none⟩), .slice g.la st.lk.length g.lc, .pointer (some ⟨g.tb, 0, none⟩), .map (some g.wm), .map (some g.cm), .int .i64 st.tm.s, .int .i64 st.tm.c, .int .i64 st.tm.r, .int .i64 st.wait, .int .i64 ((g.next : Nat) : Int), .int .i64 st.now, .int .i64 (st.cn 0), .int .i64 (st.cn 1), .int .i64 (st.cn 2), .int .i64 (st.cn 3), .int .i64 (st.cn 4), .int .i64 (st.cn 5), .int .i64 (st.cn 6), .int .i64 (IntKind.wrap .i64 ((st.cn 7) + 1)), .int .i64 (st.cn 8)] 129 := Own.cast hw1.own (by kernel_rfl)
 have hzhw1 := hw1.same
 refine VL_end (by kernel_rfl) ?_
 refine VQ_next ?_
 refine VC_region ?_
 refine VL_pure 1 [0, 1, 3, 6, 9] [(0, .pointer (some ⟨p, 0, none⟩)), (1, .pointer (some ⟨z.wb, 0, none⟩)), (3, .bool true), (6, .pointer (some ⟨b1, 0, none⟩)), (9, .int .i64 1)] (by kernel_rfl) rfl ?_
 refine VL_end (by kernel_rfl) ?_
 refine VQ_block_normal ?_
 refine VQ_next ?_
 refine VC_seq ?_
 refine VC_seq ?_
 refine VC_region ?_
 refine VL_pure 1 [0, 1, 6, 9, 66] [(0, .pointer (some ⟨p, 0, none⟩)), (1, .pointer (some ⟨z.wb, 0, none⟩)), (6, .pointer (some ⟨b1, 0, none⟩)), (9, .int .i64 1), (66, .bool true)] (by kernel_rfl) rfl ?_
 refine VL_end (by kernel_rfl) ?_
 refine VQ_next ?_
 refine VC_true (by kernel_rfl) ?_
 have hs6 := drew_step w13
 have hs6z : w13.heap.size = w13.drew.heap.size := rfl
 refine VC_text [[], [0], [0, 1], [0, 1, 2], [], [4], [4, 5], [4, 5, 6], [0, 1, 2, 3, 4, 5, 6, 7]] 8 (fun x y => Step (fun k => w13.heap.size ≤ k) x y) [] [0, 1, 2, 3, 4, 5, 6, 7] (by kernel_rfl) (by kernel_rfl) (by kernel_rfl) (by kernel_rfl) (fun x => Step.refl _ x) (fun h k => Step.trans h k) Step.weak ?_
 have hzl20 := how.lt
 have hzl24 := ho2.lt
 generalize w13.drew = w14 at hs6 hs6z ⊢
 replace hS := passF_no hS hs6
 replace how := how.no hs6
 replace hoa := hoa.no hs6
 replace ho1 := ho1.no hs6
 replace hn1 := NdP.no hn1 hs6
 replace ho2 := ho2.no hs6
 refine VT_pures 3 (kn' := [(2, .pointer (some ⟨z.wb, 6, none⟩)), (1, .pointer (some ⟨z.wb, 0, none⟩)), (0, .pointer (some ⟨z.wb, 0, none⟩))]) (by kernel_rfl) ?_
 refine VT_load (d := 70) (t := 140) (a := ⟨z.wb, 6, none⟩) (v := .pointer (some ⟨z.ab, 0, none⟩)) (by kernel_rfl) (by kernel_rfl) ?_ ?_
 ·intro w15 hr6
  replace how := how.step hr6 (by (try simp only); omega)
  exact (Loads.own1 how (by kernel_rfl) (by rfl))
 refine VT_pures 3 (kn' := [(6, .pointer (some ⟨p, 10, none⟩)), (5, .pointer (some ⟨p, 0, none⟩)), (4, .pointer (some ⟨p, 0, none⟩)), (3, .pointer (some ⟨z.ab, 0, none⟩)), (2, .pointer (some ⟨z.wb, 6, none⟩)), (1, .pointer (some ⟨z.wb, 0, none⟩)), (0, .pointer (some ⟨z.wb, 0, none⟩))]) (by kernel_rfl) ?_
 refine VT_load (d := 74) (t := 3) (a := ⟨p, 10, none⟩) (v := .int .i64 st.now) (by kernel_rfl) (by kernel_rfl) ?_ ?_
 ·intro w16 hr7
  replace ho2 := ho2.step hr7 (by (try simp only); omega)
  exact (Loads.own1 ho2 (by kernel_rfl) (by rfl))
 refine VT_end ?_
 intro w17 hs7
 replace hS := passF_no hS hs7
 replace how := how.no hs7
 replace hoa := hoa.no hs7
 replace ho1 := ho1.no hs7
 replace hn1 := NdP.no hn1 hs7
 replace ho2 := ho2.no hs7
 refine VL_keep [1, 6, 9, 70, 74] [(1, .pointer (some ⟨z.wb, 0, none⟩)), (6, .pointer (some ⟨b1, 0, none⟩)), (9, .int .i64 1), (70, .pointer (some ⟨z.ab, 0, none⟩)), (74, .int .i64 st.now)] (by kernel_rfl) ?_
 refine VL_call (d := 75) (f := 126) (args := #[.pointer (some ⟨z.ab, 0, none⟩), .int .i64 st.now]) (by kernel_rfl) (by kernel_rfl) (by kernel_rfl) Tryz.call126 (user_any z.ab z.y.al _ hoa st.now) ?_
 rintro _ w18 ⟨rfl, hab2, hc2⟩
 replace hS := Step.trans hS (Step.mono hc2 (fun i9 h9 => .inr (.inr h9)))
 replace how := how.step hc2 (show ¬ z.wb = z.ab by omega)
 replace ho1 := ho1.step hc2 (show ¬ b1 = z.ab by omega)
 replace hn1 := NdP.blk hn1 hoa (by decide) hc2
 replace ho2 := ho2.step hc2 (show ¬ p = z.ab by omega)
 refine VL_end (by kernel_rfl) ?_
 refine VQ_next ?_
 refine VC_seq ?_
 have hs8 := drew_step w18
 have hs8z : w18.heap.size = w18.drew.heap.size := rfl
 refine VC_text [[], [0], [0, 1], [0, 1, 2], [], [4], [4, 5], [], [], [8], [0, 1, 2, 3, 4, 5, 6, 7, 8, 9], [0, 1, 2, 3, 4, 5, 6, 7, 8, 9, 10], [0, 1, 2, 3, 4, 5, 6, 7, 8, 9, 10, 11]] 10 (fun x y => Step (fun k => w18.heap.size ≤ k) x y) [] [0, 1, 2, 3, 4, 5, 6, 7, 8, 9] (by kernel_rfl) (by kernel_rfl) (by kernel_rfl) (by kernel_rfl) (fun x => Step.refl _ x) (fun h k => Step.trans h k) Step.weak ?_
 have hzl30 := how.lt
 have hzl31 := ho1.lt
 generalize w18.drew = w19 at hs8 hs8z ⊢
 replace hS := passF_no hS hs8
 replace how := how.no hs8
 replace ho1 := ho1.no hs8
 replace hn1 := NdP.no hn1 hs8
 replace ho2 := ho2.no hs8
 replace hab2 := hab2.no hs8
 refine VT_pures 3 (kn' := [(2, .pointer (some ⟨z.wb, 3, none⟩)), (1, .pointer (some ⟨z.wb, 0, none⟩)), (0, .pointer (some ⟨z.wb, 0, none⟩))]) (by kernel_rfl) ?_
 refine VT_load (d := 79) (t := 34) (a := ⟨z.wb, 3, none⟩) (v := .agg #[.int .i64 z.y.op, .int .i64 z.y.ov, .int .i64 z.y.oc]) (by kernel_rfl) (by kernel_rfl) ?_ ?_
 ·intro w20 hr8
  replace how := how.step hr8 (by (try simp only); omega)
  exact (Loads.ownL how (n := 3) (by kernel_rfl) (by kernel_rfl) (by kernel_rfl))
 refine VT_pures 2 (kn' := [(5, .pointer (some ⟨b1, 3, none⟩)), (4, .pointer (some ⟨b1, 0, none⟩)), (3, .agg #[.int .i64 z.y.op, .int .i64 z.y.ov, .int .i64 z.y.oc]), (2, .pointer (some ⟨z.wb, 3, none⟩)), (1, .pointer (some ⟨z.wb, 0, none⟩)), (0, .pointer (some ⟨z.wb, 0, none⟩))]) (by kernel_rfl) ?_
 refine VT_load (d := 82) (t := 3) (a := ⟨b1, 3, none⟩) (v := .int .i64 hh.p) (by kernel_rfl) (by kernel_rfl) ?_ ?_
 ·intro w21 hr9
  replace ho1 := ho1.step hr9 (by (try simp only); omega)
  exact (Loads.cellF (i := 3) ho1 (by kernel_rfl) (by decide) rfl)
 refine VT_pures 2 (kn' := [(8, .pointer (some ⟨b1, 5, none⟩)), (7, .int .i64 1), (6, .int .i64 hh.p), (5, .pointer (some ⟨b1, 3, none⟩)), (4, .pointer (some ⟨b1, 0, none⟩)), (3, .agg #[.int .i64 z.y.op, .int .i64 z.y.ov, .int .i64 z.y.oc]), (2, .pointer (some ⟨z.wb, 3, none⟩)), (1, .pointer (some ⟨z.wb, 0, none⟩)), (0, .pointer (some ⟨z.wb, 0, none⟩))]) (by kernel_rfl) ?_
 refine VT_load (d := 85) (t := 43) (a := ⟨b1, 5, none⟩) (v := .agg (iA .u8 ps)) (by kernel_rfl) (by kernel_rfl) ?_ ?_
 ·intro w22 hr10
  replace ho1 := ho1.step hr10 (by (try simp only); omega)
  exact (Loads.cellP ho1 hps (by kernel_rfl))
 refine VT_end ?_
 intro w23 hs9
 replace hS := passF_no hS hs9
 replace ho1 := ho1.no hs9
 replace hn1 := NdP.no hn1 hs9
 replace ho2 := ho2.no hs9
 replace hab2 := hab2.no hs9
 refine VL_keep [79, 82, 83, 85] [(79, .agg #[.int .i64 z.y.op, .int .i64 z.y.ov, .int .i64 z.y.oc]), (82, .int .i64 hh.p), (83, .int .i64 1), (85, .agg (iA .u8 ps))] (by kernel_rfl) ?_
 have hzl36 := ho1.lt
 refine VL_call (d := 86) (f := 82) (args := #[.agg #[.int .i64 z.y.op, .int .i64 z.y.ov, .int .i64 z.y.oc], .int .i64 hh.p, .int .i64 1, .agg (iA .u8 ps)]) (by kernel_rfl) (by kernel_rfl) (by kernel_rfl) Tryz.call82 (send_yes z.y.op z.y.ov z.y.oc hh.p 1 ps _ hps hok) ?_
 rintro _ w24 ⟨A1, c1, rfl, hr11, hc3⟩
 replace hS := passF_no hS hc3
 replace ho1 := ho1.no hc3
 replace hn1 := NdP.no hn1 hc3
 replace ho2 := ho2.no hc3
 replace hab2 := hab2.no hc3
 obtain ⟨base1, hbase1E⟩ : ∃ x, x = w23.heap.size := ⟨_, rfl⟩
 rw [← hbase1E] at hr11
 have hzl41 := ho1.lt
 refine VL_bs (d := 87) (e := 67) (c := #[.int .i64 z.y.op, .slice A1 53 c1]) (len := 1) (by kernel_rfl) (by kernel_rfl) ?_
 intro b2 w25 hn2
 replace hS := passF_no hS (hn2.step No)
 replace hn1 := NdP.no hn1 (hn2.step No)
 replace ho2 := ho2.no (hn2.step No)
 replace hab2 := hab2.no (hn2.step No)
 replace hr11 := hr11.no (hn2.step No)
 have ho3 := hn2.own
 have hzhn2 := hn2.size
 have hqhn2 := hn2.eqb
 refine VL_pure 13 [8] [(8, .slice (some ⟨b2, 0, none⟩) 1 1)] (by kernel_rfl) rfl ?_
 refine VL_end (by kernel_rfl) ?_
 refine VQ_next ?_
 refine VC_ret ?_
 refine VQ_ret1 (.slice (some ⟨b2, 0, none⟩) 1 1) (.inr rfl) rfl rfl ?_
 have hcz := hpi.cn 7
 obtain ⟨oo1, oo2, oo3, oo4⟩ := h.out_ok z1
 have hX := h.passed (cn9 := bump st.cn 7) (al9 := userA z.y.al) hz hS (Own.cast ho2 TPl6ab) hn1 (fun q hq => (hX9 q hq).imp id (fun h9 => by omega)) TPl6ac (fun a b d => findC_setC (f := newR st.now hh.l) hn0.li.one (fun x => ⟨rfl, rfl, rfl⟩) a b d) (bump_le hpi.cn 7) hab2 (have h9 := hpi.als z.y TPl6ad; ⟨⟨h9.1.1, h9.1.2⟩, h9.2⟩)
 have hN : PNext w p X XB lo { st with L := verN st.L z.y.op z.y.ov z.y.oc st.now hh.l, cn := bump st.cn 7, W := setW st.W q v c (setAl (userA z.y.al)) } (n + 1) w25 := ⟨_, XB, ⟨_, hX⟩, fun k9 hk9 => by rcases hk9 with ⟨a, _⟩ | a; exact .inl a; exact (hX9 k9 a).imp (fun h9 => h.inX k9 (.inl h9)) (fun h9 => by omega), fun k9 hk9 => .inl hk9, Step.mono hS (fun k9 hk9 => by rcases hk9 with a | a | a; exact h.inX k9 (.inl a); rw [a]; exact h.inp.1; rw [a]; exact h.inX _ (.inr (.inr (.inr ⟨z, z1, .inr rfl⟩))))⟩
 exact ⟨⟨b2, A1, c1, rfl, ho3, by omega, Rw.low hr11 (by omega)⟩, hN⟩

theorem pass_go1 (p lo : Nat) (X XB : Nat → Prop) (g : PlG) (st : PS) (n : Nat) (w : World) (q v c : Int) (z : Wi) (hz : findWi g.wi q v c = some z) (hh : Hd) (ps : List Int) (hps : ps.length = 48) (hk : hdOk hh = true) (hn : n < 1152921504606846976) (hv3 : verV st.L z.y.op z.y.ov z.y.oc st.now hh.l ≠ 3) (hv2 : verV st.L z.y.op z.y.ov z.y.oc st.now hh.l ≠ 2) (hl : hh.l = 0 ∨ hh.l = 1) (h : PnX w p X XB lo g st n)  :
  CV Tryz.prog 70 #[.pointer (some ⟨p, 0, none⟩), .pointer (some ⟨z.wb, 0, none⟩), .agg (cellA hh ps), .bool true] w (fun x w1 => Out1 w w1 x z.y.op (buildL ⟨0, z.y.ov, z.y.oc, hh.p, hh.l⟩ ps) ∧ PNext w p X XB lo { st with L := verN st.L z.y.op z.y.ov z.y.oc st.now hh.l, cn := bump st.cn 6, W := setW st.W q v c (setAl (userA z.y.al)) } (n + 1) w1) := by
 obtain ⟨z1, z2, z3, z4⟩ := findWi_some hz
 obtain ⟨how, hoa⟩ := h.s.way z z1
 have hS : Step (passF g p z.ab) w w := Step.refl _ _
 have hp := h.own
 have hpi := h.pi
 have hn0 := h.s.node
 have hNX : ∀ k, g.Xn k → k < w.heap.size := fun k hk => hn0.ltX hk
 have hNp : ¬ g.Xn p := fun e => h.n_p (.inl e)
 have t1 := h.t_p
 have t5 := h.s.t_ab z1
 have t6 := h.s.t_wb z1
 have hNw : ¬ g.Xn z.wb := fun e => by have := h.s.t_nd e; omega
 have hNa : ¬ g.Xn z.ab := fun e => by have := h.s.t_nd e; omega
 have hpw : p ≠ z.wb := fun e => by rw [e] at t1; omega
 have hpa : p ≠ z.ab := fun e => by rw [e] at t1; omega
 have hwa : z.wb ≠ z.ab := fun e => by rw [e] at t6; omega
 have hpl := hp.lt
 have hal2 := hoa.lt
 have hok := h.out_hd z1 hk hl
 refine CV_enter Tryz.f70 _ 88 [(0, .pointer (some ⟨p, 0, none⟩)), (1, .pointer (some ⟨z.wb, 0, none⟩)), (2, .agg (cellA hh ps)), (3, .bool true)] Tryz.func70 rfl rfl (by kernel_rfl) rfl ?_
 refine VC_seq ?_
 refine VC_region ?_
 refine VL_box (d := 6) (t := 45) (c := (cellA hh ps)) (by kernel_rfl) (by kernel_rfl) ?_
 intro b1 w1 hn1
 replace hS := passF_no hS (hn1.step No)
 replace hp := hp.no (hn1.step No)
 replace how := how.no (hn1.step No)
 replace hoa := hoa.no (hn1.step No)
 replace hn0 := NdP.no hn0 (hn1.step No)
 have ho1 := hn1.own
 have hzhn1 := hn1.size
 have hqhn1 := hn1.eqb
 refine VL_pure 2 [0, 1, 3, 6] [(0, .pointer (some ⟨p, 0, none⟩)), (1, .pointer (some ⟨z.wb, 0, none⟩)), (3, .bool true), (6, .pointer (some ⟨b1, 0, none⟩))] (by kernel_rfl) rfl ?_
 refine VL_end (by kernel_rfl) ?_
 refine VQ_next ?_
 refine VC_seq ?_
 refine VC_region ?_
 refine VL_pure 2 [0, 1, 3, 6, 13] [(0, .pointer (some ⟨p, 0, none⟩)), (1, .pointer (some ⟨z.wb, 0, none⟩)), (3, .bool true), (6, .pointer (some ⟨b1, 0, none⟩)), (13, .pointer (some ⟨b1, 4, none⟩))] (by kernel_rfl) rfl ?_
 refine VL_load (d := 14) (t := 3) (a := ⟨b1, 4, none⟩) (v := .int .i64 hh.l) (by kernel_rfl) (by kernel_rfl) (Loads.cellF (i := 4) ho1 (by kernel_rfl) (by decide) rfl) ?_
 refine VL_pure 4 [0, 1, 3, 6, 9] [(0, .pointer (some ⟨p, 0, none⟩)), (1, .pointer (some ⟨z.wb, 0, none⟩)), (3, .bool true), (6, .pointer (some ⟨b1, 0, none⟩)), (9, .int .i64 hh.l)] (by kernel_rfl) rfl ?_
 refine VL_end (by kernel_rfl) ?_
 refine VQ_next ?_
 refine VC_seq ?_
 refine VC_seq ?_
 have hs1 := drew_step w1
 have hs1z : w1.heap.size = w1.drew.heap.size := rfl
 refine VC_text [[], [0], [0, 1], [0, 1, 2], [], [4], [4, 5], [4, 5, 6], [], [8], [8, 9], [8, 9, 10], [], [12], [12, 13], [0, 1, 2, 3, 4, 5, 6, 7, 8, 9, 10, 11, 12, 13, 14], [0, 1, 2, 3, 4, 5, 6, 7, 8, 9, 10, 11, 12, 13, 14, 15], [0, 1, 2, 3, 4, 5, 6, 7, 8, 9, 10, 11, 12, 13, 14, 15, 16], [0, 1, 2, 3, 4, 5, 6, 7, 8, 9, 10, 11, 12, 13, 14, 15, 16], [0, 1, 2, 3, 4, 5, 6, 7, 8, 9, 10, 11, 12, 13, 14, 15, 16, 17], [0, 1, 2, 3, 4, 5, 6, 7, 8, 9, 10, 11, 12, 13, 14, 15, 16, 17, 18, 19]] 20 (fun x y => Step (fun k => g.Xn k ∨ w1.heap.size ≤ k) x y) [15] [0, 1, 2, 3, 4, 5, 6, 7, 8, 9, 10, 11, 12, 13, 14, 15, 16, 17, 18, 19] (by kernel_rfl) (by kernel_rfl) (by kernel_rfl) (by kernel_rfl) (fun x => Step.refl _ x) (fun h k => Step.trans h k) Step.weak ?_
 generalize w1.drew = w2 at hs1 hs1z ⊢
 replace hS := passF_no hS hs1
 replace hp := hp.no hs1
 replace how := how.no hs1
 replace hoa := hoa.no hs1
 replace hn0 := NdP.no hn0 hs1
 replace ho1 := ho1.no hs1
 refine VT_pures 3 (kn' := [(2, .pointer (some ⟨p, 0, none⟩)), (1, .pointer (some ⟨p, 0, none⟩)), (0, .pointer (some ⟨p, 0, none⟩))]) (by kernel_rfl) ?_
 refine VT_load (d := 19) (t := 121) (a := ⟨p, 0, none⟩) (v := .pointer (some ⟨g.nd, 0, none⟩)) (by kernel_rfl) (by kernel_rfl) ?_ ?_
 ·intro w3 hr1
  have hcut1 := Step.cut hr1 (by omega)
  replace hp := hp.step hcut1 hNp
  exact (Loads.own1 hp (by kernel_rfl) (by rfl))
 refine VT_pures 3 (kn' := [(6, .pointer (some ⟨z.wb, 3, none⟩)), (5, .pointer (some ⟨z.wb, 0, none⟩)), (4, .pointer (some ⟨z.wb, 0, none⟩)), (3, .pointer (some ⟨g.nd, 0, none⟩)), (2, .pointer (some ⟨p, 0, none⟩)), (1, .pointer (some ⟨p, 0, none⟩)), (0, .pointer (some ⟨p, 0, none⟩))]) (by kernel_rfl) ?_
 refine VT_load (d := 23) (t := 34) (a := ⟨z.wb, 3, none⟩) (v := .agg #[.int .i64 z.y.op, .int .i64 z.y.ov, .int .i64 z.y.oc]) (by kernel_rfl) (by kernel_rfl) ?_ ?_
 ·intro w4 hr2
  have hcut2 := Step.cut hr2 (by omega)
  replace how := how.step hcut2 hNw
  exact (Loads.ownL how (n := 3) (by kernel_rfl) (by kernel_rfl) (by kernel_rfl))
 refine VT_pures 3 (kn' := [(10, .pointer (some ⟨p, 10, none⟩)), (9, .pointer (some ⟨p, 0, none⟩)), (8, .pointer (some ⟨p, 0, none⟩)), (7, .agg #[.int .i64 z.y.op, .int .i64 z.y.ov, .int .i64 z.y.oc]), (6, .pointer (some ⟨z.wb, 3, none⟩)), (5, .pointer (some ⟨z.wb, 0, none⟩)), (4, .pointer (some ⟨z.wb, 0, none⟩)), (3, .pointer (some ⟨g.nd, 0, none⟩)), (2, .pointer (some ⟨p, 0, none⟩)), (1, .pointer (some ⟨p, 0, none⟩)), (0, .pointer (some ⟨p, 0, none⟩))]) (by kernel_rfl) ?_
 refine VT_load (d := 27) (t := 3) (a := ⟨p, 10, none⟩) (v := .int .i64 st.now) (by kernel_rfl) (by kernel_rfl) ?_ ?_
 ·intro w5 hr3
  have hcut3 := Step.cut hr3 (by omega)
  replace hp := hp.step hcut3 hNp
  exact (Loads.own1 hp (by kernel_rfl) (by rfl))
 refine VT_pures 2 (kn' := [(13, .pointer (some ⟨b1, 4, none⟩)), (12, .pointer (some ⟨b1, 0, none⟩)), (11, .int .i64 st.now), (10, .pointer (some ⟨p, 10, none⟩)), (9, .pointer (some ⟨p, 0, none⟩)), (8, .pointer (some ⟨p, 0, none⟩)), (7, .agg #[.int .i64 z.y.op, .int .i64 z.y.ov, .int .i64 z.y.oc]), (6, .pointer (some ⟨z.wb, 3, none⟩)), (5, .pointer (some ⟨z.wb, 0, none⟩)), (4, .pointer (some ⟨z.wb, 0, none⟩)), (3, .pointer (some ⟨g.nd, 0, none⟩)), (2, .pointer (some ⟨p, 0, none⟩)), (1, .pointer (some ⟨p, 0, none⟩)), (0, .pointer (some ⟨p, 0, none⟩))]) (by kernel_rfl) ?_
 refine VT_load (d := 30) (t := 3) (a := ⟨b1, 4, none⟩) (v := .int .i64 hh.l) (by kernel_rfl) (by kernel_rfl) ?_ ?_
 ·intro w6 hr4
  have hcut4 := Step.cut hr4 (by omega)
  replace ho1 := ho1.step hcut4 (fun h8 => by have h7 := hNX _ h8; omega)
  exact (Loads.cellF (i := 4) ho1 (by kernel_rfl) (by decide) rfl)
 refine VT_chain (by kernel_rfl) ?_
 intro w7 hs2
 have hzhs2 := hs2.size
 replace hS := passF_no hS hs2
 replace hp := hp.no hs2
 replace how := how.no hs2
 replace hoa := hoa.no hs2
 replace hn0 := NdP.no hn0 hs2
 replace ho1 := ho1.no hs2
 refine VTc_call (d := 31) (f := 125) (args := #[.pointer (some ⟨g.nd, 0, none⟩), .agg #[.int .i64 z.y.op, .int .i64 z.y.ov, .int .i64 z.y.oc], .int .i64 st.now, .int .i64 hh.l]) (by kernel_rfl) (by kernel_rfl) (by kernel_rfl) Tryz.call125 (nverdict hn0 z.y.op z.y.ov z.y.oc st.now hh.l) ?_ ?_
 ·rintro _ w8 ⟨rfl, X9, hn1, hX9, hc1⟩
  exact Step.mono hc1 TPl6aa
 rintro _ w8 ⟨rfl, X9, hn1, hX9, hc1⟩
 replace hS := Step.trans hS (Step.mono hc1 (fun i9 h9 => .inl h9))
 replace hp := hp.step hc1 hNp
 replace how := how.step hc1 hNw
 replace hoa := hoa.step hc1 hNa
 replace ho1 := ho1.step hc1 (fun h8 => by have h7 := hNX _ h8; omega)
 refine VT_pures 4 (kn' := [(19, .int .i64 (verV st.L z.y.op z.y.ov z.y.oc st.now hh.l)), (18, .bool ((findC st.L z.y.op z.y.ov z.y.oc).isSome)), (17, .int .i64 (verV st.L z.y.op z.y.ov z.y.oc st.now hh.l)), (16, .tuple #[.int .i64 (verV st.L z.y.op z.y.ov z.y.oc st.now hh.l), .bool ((findC st.L z.y.op z.y.ov z.y.oc).isSome)]), (15, .tuple #[.int .i64 (verV st.L z.y.op z.y.ov z.y.oc st.now hh.l), .bool ((findC st.L z.y.op z.y.ov z.y.oc).isSome)]), (14, .int .i64 hh.l), (13, .pointer (some ⟨b1, 4, none⟩)), (12, .pointer (some ⟨b1, 0, none⟩)), (11, .int .i64 st.now), (10, .pointer (some ⟨p, 10, none⟩)), (9, .pointer (some ⟨p, 0, none⟩)), (8, .pointer (some ⟨p, 0, none⟩)), (7, .agg #[.int .i64 z.y.op, .int .i64 z.y.ov, .int .i64 z.y.oc]), (6, .pointer (some ⟨z.wb, 3, none⟩)), (5, .pointer (some ⟨z.wb, 0, none⟩)), (4, .pointer (some ⟨z.wb, 0, none⟩)), (3, .pointer (some ⟨g.nd, 0, none⟩)), (2, .pointer (some ⟨p, 0, none⟩)), (1, .pointer (some ⟨p, 0, none⟩)), (0, .pointer (some ⟨p, 0, none⟩))]) (by kernel_rfl) ?_
 refine VT_end ?_
 intro w9 hs3
 replace hS := passF_no hS hs3
 replace hp := hp.no hs3
 replace how := how.no hs3
 replace hoa := hoa.no hs3
 replace ho1 := ho1.no hs3
 replace hn1 := NdP.no hn1 hs3
 refine VL_keep [0, 1, 3, 6, 9, 33, 10] [(0, .pointer (some ⟨p, 0, none⟩)), (1, .pointer (some ⟨z.wb, 0, none⟩)), (3, .bool true), (6, .pointer (some ⟨b1, 0, none⟩)), (9, .int .i64 hh.l), (33, .bool ((findC st.L z.y.op z.y.ov z.y.oc).isSome)), (10, .int .i64 (verV st.L z.y.op z.y.ov z.y.oc st.now hh.l))] (by kernel_rfl) ?_
 refine VL_pure 21 [0, 1, 3, 6, 9, 10] [(0, .pointer (some ⟨p, 0, none⟩)), (1, .pointer (some ⟨z.wb, 0, none⟩)), (3, .bool true), (6, .pointer (some ⟨b1, 0, none⟩)), (9, .int .i64 hh.l), (10, .int .i64 (verV st.L z.y.op z.y.ov z.y.oc st.now hh.l))] (by kernel_rfl) rfl ?_
 refine VL_end (by kernel_rfl) ?_
 refine VQ_next ?_
 refine VC_seq ?_
 refine VC_region ?_
 refine VL_pure 1 [0, 1, 3, 6, 9, 34] [(0, .pointer (some ⟨p, 0, none⟩)), (1, .pointer (some ⟨z.wb, 0, none⟩)), (3, .bool true), (6, .pointer (some ⟨b1, 0, none⟩)), (9, .int .i64 hh.l), (34, .int .i64 (verV st.L z.y.op z.y.ov z.y.oc st.now hh.l))] (by kernel_rfl) rfl ?_
 refine VL_end (by kernel_rfl) ?_
 refine VQ_next ?_
 refine VC_block ?_
 refine VC_seq ?_
 refine VC_region ?_
 refine VL_pure 2 [0, 1, 3, 6, 9, 34, 44] [(0, .pointer (some ⟨p, 0, none⟩)), (1, .pointer (some ⟨z.wb, 0, none⟩)), (3, .bool true), (6, .pointer (some ⟨b1, 0, none⟩)), (9, .int .i64 hh.l), (34, .int .i64 (verV st.L z.y.op z.y.ov z.y.oc st.now hh.l)), (44, .bool ((verV st.L z.y.op z.y.ov z.y.oc st.now hh.l) == 3))] (by kernel_rfl) rfl ?_
 refine VL_end (by kernel_rfl) ?_
 refine VQ_next ?_
 refine VC_is (b := (verV st.L z.y.op z.y.ov z.y.oc st.now hh.l) == 3) false (by kernel_rfl) (beq_eq_false_iff_ne.2 hv3) ?_
 refine VC_ite_false ?_
 refine VC_seq ?_
 refine VC_region ?_
 refine VL_pure 2 [0, 1, 3, 6, 9, 55] [(0, .pointer (some ⟨p, 0, none⟩)), (1, .pointer (some ⟨z.wb, 0, none⟩)), (3, .bool true), (6, .pointer (some ⟨b1, 0, none⟩)), (9, .int .i64 hh.l), (55, .bool ((verV st.L z.y.op z.y.ov z.y.oc st.now hh.l) == 2))] (by kernel_rfl) rfl ?_
 refine VL_end (by kernel_rfl) ?_
 refine VQ_next ?_
 refine VC_is (b := (verV st.L z.y.op z.y.ov z.y.oc st.now hh.l) == 2) false (by kernel_rfl) (beq_eq_false_iff_ne.2 hv2) ?_
 refine VC_ite_false ?_
 have hs4 := drew_step w9
 have hs4z : w9.heap.size = w9.drew.heap.size := rfl
 refine VC_text [[], [0], [0, 1], [0, 1, 2], [0, 1, 2, 3], [0, 1, 2, 3, 4], [0], [0, 6], [0, 1, 2, 3, 4, 5, 6, 7], [0, 1, 2, 3, 4, 5, 6, 7, 8]] 8 (fun x y => Step (fun k => w9.heap.size ≤ k) x y) [] [0, 1, 2, 3, 4, 5, 6, 7] (by kernel_rfl) (by kernel_rfl) (by kernel_rfl) (by kernel_rfl) (fun x => Step.refl _ x) (fun h k => Step.trans h k) Step.weak ?_
 have hzl15 := hp.lt
 generalize w9.drew = w10 at hs4 hs4z ⊢
 replace hS := passF_no hS hs4
 replace hp := hp.no hs4
 replace how := how.no hs4
 replace hoa := hoa.no hs4
 replace ho1 := ho1.no hs4
 replace hn1 := NdP.no hn1 hs4
 refine VT_pures 3 (kn' := [(2, .pointer (some ⟨p, 11, none⟩)), (1, .pointer (some ⟨p, 0, none⟩)), (0, .pointer (some ⟨p, 0, none⟩))]) (by kernel_rfl) ?_
 refine VT_index (d := 38) (b := p) (o := 11) (len := 9) (sz := 1) (mm := 6) (by kernel_rfl) (by kernel_rfl) 6 (by rfl) (by omega) 17 (by omega) ?_
 refine VT_load (d := 39) (t := 3) (a := ⟨p, 17, none⟩) (v := .int .i64 (st.cn 6)) (by kernel_rfl) (by kernel_rfl) ?_ ?_
 ·intro w11 hr5
  replace hp := hp.step hr5 (by (try simp only); omega)
  exact (Loads.own1 hp (by kernel_rfl) (by rfl))
 refine VT_pures 3 (kn' := [(7, .pointer (some ⟨p, 11, none⟩)), (6, .pointer (some ⟨p, 0, none⟩)), (5, .int .i64 (IntKind.wrap .i64 ((st.cn 6) + 1))), (4, .int .i64 (st.cn 6)), (3, .pointer (some ⟨p, 17, none⟩)), (2, .pointer (some ⟨p, 11, none⟩)), (1, .pointer (some ⟨p, 0, none⟩)), (0, .pointer (some ⟨p, 0, none⟩))]) (by kernel_rfl) ?_
 refine VT_end ?_
 intro w12 hs5
 replace hS := passF_no hS hs5
 replace hp := hp.no hs5
 replace how := how.no hs5
 replace hoa := hoa.no hs5
 replace ho1 := ho1.no hs5
 replace hn1 := NdP.no hn1 hs5
 refine VL_keep [0, 1, 3, 6, 9, 40, 42] [(0, .pointer (some ⟨p, 0, none⟩)), (1, .pointer (some ⟨z.wb, 0, none⟩)), (3, .bool true), (6, .pointer (some ⟨b1, 0, none⟩)), (9, .int .i64 hh.l), (40, .int .i64 (IntKind.wrap .i64 ((st.cn 6) + 1))), (42, .pointer (some ⟨p, 11, none⟩))] (by kernel_rfl) ?_
 refine VL_index (d := 43) (b := p) (o := 11) (len := 9) (sz := 1) (m := 6) (by kernel_rfl) (by kernel_rfl) 6 (by rfl) (by omega) 17 (by omega) ?_
 refine VL_store (b := p) (o := 17) (vs := [.int .i64 (IntKind.wrap .i64 ((st.cn 6) + 1))]) (by kernel_rfl) (by kernel_rfl) hp (Nat.le_of_ble_eq_true (by kernel_rfl)) ?_
 intro w13 hw1
 replace hS := Step.trans hS (Step.mono hw1.step (fun i9 h9 => .inr (.inl h9)))
 replace how := how.step hw1.step (show ¬ z.wb = p by omega)
 replace hoa := hoa.step hw1.step (show ¬ z.ab = p by omega)
 replace ho1 := ho1.step hw1.step (show ¬ b1 = p by omega)
 replace hn1 := NdP.blk hn1 hp (by decide) hw1.step
 have ho2 : Own w13 p #[.pointer (some ⟨g.nd, 0, none⟩), .slice g.la st.lk.length g.lc, .pointer (some ⟨g.tb, 0, none⟩), .map (some g.wm), .map (some g.cm), .int .i64 st.tm.s, .int .i64 st.tm.c, .int .i64 st.tm.r, .int .i64 st.wait, .int .i64 ((g.next : Nat) : Int), .int .i64 st.now, .int .i64 (st.cn 0), .int .i64 (st.cn 1), .int .i64 (st.cn 2), .int .i64 (st.cn 3), .int .i64 (st.cn 4), .int .i64 (st.cn 5), .int .i64 (IntKind.wrap .i64 ((st.cn 6) + 1)), .int .i64 (st.cn 7), .int .i64 (st.cn 8)] 129 := Own.cast hw1.own (by kernel_rfl)
 have hzhw1 := hw1.same
 refine VL_end (by kernel_rfl) ?_
 refine VQ_block_normal ?_
 refine VQ_next ?_
 refine VC_seq ?_
 refine VC_seq ?_
 refine VC_region ?_
 refine VL_pure 1 [0, 1, 6, 9, 66] [(0, .pointer (some ⟨p, 0, none⟩)), (1, .pointer (some ⟨z.wb, 0, none⟩)), (6, .pointer (some ⟨b1, 0, none⟩)), (9, .int .i64 hh.l), (66, .bool true)] (by kernel_rfl) rfl ?_
 refine VL_end (by kernel_rfl) ?_
 refine VQ_next ?_
 refine VC_true (by kernel_rfl) ?_
 have hs6 := drew_step w13
 have hs6z : w13.heap.size = w13.drew.heap.size := rfl
 refine VC_text [[], [0], [0, 1], [0, 1, 2], [], [4], [4, 5], [4, 5, 6], [0, 1, 2, 3, 4, 5, 6, 7]] 8 (fun x y => Step (fun k => w13.heap.size ≤ k) x y) [] [0, 1, 2, 3, 4, 5, 6, 7] (by kernel_rfl) (by kernel_rfl) (by kernel_rfl) (by kernel_rfl) (fun x => Step.refl _ x) (fun h k => Step.trans h k) Step.weak ?_
 have hzl20 := how.lt
 have hzl24 := ho2.lt
 generalize w13.drew = w14 at hs6 hs6z ⊢
 replace hS := passF_no hS hs6
 replace how := how.no hs6
 replace hoa := hoa.no hs6
 replace ho1 := ho1.no hs6
 replace hn1 := NdP.no hn1 hs6
 replace ho2 := ho2.no hs6
 refine VT_pures 3 (kn' := [(2, .pointer (some ⟨z.wb, 6, none⟩)), (1, .pointer (some ⟨z.wb, 0, none⟩)), (0, .pointer (some ⟨z.wb, 0, none⟩))]) (by kernel_rfl) ?_
 refine VT_load (d := 70) (t := 140) (a := ⟨z.wb, 6, none⟩) (v := .pointer (some ⟨z.ab, 0, none⟩)) (by kernel_rfl) (by kernel_rfl) ?_ ?_
 ·intro w15 hr6
  replace how := how.step hr6 (by (try simp only); omega)
  exact (Loads.own1 how (by kernel_rfl) (by rfl))
 refine VT_pures 3 (kn' := [(6, .pointer (some ⟨p, 10, none⟩)), (5, .pointer (some ⟨p, 0, none⟩)), (4, .pointer (some ⟨p, 0, none⟩)), (3, .pointer (some ⟨z.ab, 0, none⟩)), (2, .pointer (some ⟨z.wb, 6, none⟩)), (1, .pointer (some ⟨z.wb, 0, none⟩)), (0, .pointer (some ⟨z.wb, 0, none⟩))]) (by kernel_rfl) ?_
 refine VT_load (d := 74) (t := 3) (a := ⟨p, 10, none⟩) (v := .int .i64 st.now) (by kernel_rfl) (by kernel_rfl) ?_ ?_
 ·intro w16 hr7
  replace ho2 := ho2.step hr7 (by (try simp only); omega)
  exact (Loads.own1 ho2 (by kernel_rfl) (by rfl))
 refine VT_end ?_
 intro w17 hs7
 replace hS := passF_no hS hs7
 replace how := how.no hs7
 replace hoa := hoa.no hs7
 replace ho1 := ho1.no hs7
 replace hn1 := NdP.no hn1 hs7
 replace ho2 := ho2.no hs7
 refine VL_keep [1, 6, 9, 70, 74] [(1, .pointer (some ⟨z.wb, 0, none⟩)), (6, .pointer (some ⟨b1, 0, none⟩)), (9, .int .i64 hh.l), (70, .pointer (some ⟨z.ab, 0, none⟩)), (74, .int .i64 st.now)] (by kernel_rfl) ?_
 refine VL_call (d := 75) (f := 126) (args := #[.pointer (some ⟨z.ab, 0, none⟩), .int .i64 st.now]) (by kernel_rfl) (by kernel_rfl) (by kernel_rfl) Tryz.call126 (user_any z.ab z.y.al _ hoa st.now) ?_
 rintro _ w18 ⟨rfl, hab2, hc2⟩
 replace hS := Step.trans hS (Step.mono hc2 (fun i9 h9 => .inr (.inr h9)))
 replace how := how.step hc2 (show ¬ z.wb = z.ab by omega)
 replace ho1 := ho1.step hc2 (show ¬ b1 = z.ab by omega)
 replace hn1 := NdP.blk hn1 hoa (by decide) hc2
 replace ho2 := ho2.step hc2 (show ¬ p = z.ab by omega)
 refine VL_end (by kernel_rfl) ?_
 refine VQ_next ?_
 refine VC_seq ?_
 have hs8 := drew_step w18
 have hs8z : w18.heap.size = w18.drew.heap.size := rfl
 refine VC_text [[], [0], [0, 1], [0, 1, 2], [], [4], [4, 5], [], [], [8], [0, 1, 2, 3, 4, 5, 6, 7, 8, 9], [0, 1, 2, 3, 4, 5, 6, 7, 8, 9, 10], [0, 1, 2, 3, 4, 5, 6, 7, 8, 9, 10, 11]] 10 (fun x y => Step (fun k => w18.heap.size ≤ k) x y) [] [0, 1, 2, 3, 4, 5, 6, 7, 8, 9] (by kernel_rfl) (by kernel_rfl) (by kernel_rfl) (by kernel_rfl) (fun x => Step.refl _ x) (fun h k => Step.trans h k) Step.weak ?_
 have hzl30 := how.lt
 have hzl31 := ho1.lt
 generalize w18.drew = w19 at hs8 hs8z ⊢
 replace hS := passF_no hS hs8
 replace how := how.no hs8
 replace ho1 := ho1.no hs8
 replace hn1 := NdP.no hn1 hs8
 replace ho2 := ho2.no hs8
 replace hab2 := hab2.no hs8
 refine VT_pures 3 (kn' := [(2, .pointer (some ⟨z.wb, 3, none⟩)), (1, .pointer (some ⟨z.wb, 0, none⟩)), (0, .pointer (some ⟨z.wb, 0, none⟩))]) (by kernel_rfl) ?_
 refine VT_load (d := 79) (t := 34) (a := ⟨z.wb, 3, none⟩) (v := .agg #[.int .i64 z.y.op, .int .i64 z.y.ov, .int .i64 z.y.oc]) (by kernel_rfl) (by kernel_rfl) ?_ ?_
 ·intro w20 hr8
  replace how := how.step hr8 (by (try simp only); omega)
  exact (Loads.ownL how (n := 3) (by kernel_rfl) (by kernel_rfl) (by kernel_rfl))
 refine VT_pures 2 (kn' := [(5, .pointer (some ⟨b1, 3, none⟩)), (4, .pointer (some ⟨b1, 0, none⟩)), (3, .agg #[.int .i64 z.y.op, .int .i64 z.y.ov, .int .i64 z.y.oc]), (2, .pointer (some ⟨z.wb, 3, none⟩)), (1, .pointer (some ⟨z.wb, 0, none⟩)), (0, .pointer (some ⟨z.wb, 0, none⟩))]) (by kernel_rfl) ?_
 refine VT_load (d := 82) (t := 3) (a := ⟨b1, 3, none⟩) (v := .int .i64 hh.p) (by kernel_rfl) (by kernel_rfl) ?_ ?_
 ·intro w21 hr9
  replace ho1 := ho1.step hr9 (by (try simp only); omega)
  exact (Loads.cellF (i := 3) ho1 (by kernel_rfl) (by decide) rfl)
 refine VT_pures 2 (kn' := [(8, .pointer (some ⟨b1, 5, none⟩)), (7, .int .i64 hh.l), (6, .int .i64 hh.p), (5, .pointer (some ⟨b1, 3, none⟩)), (4, .pointer (some ⟨b1, 0, none⟩)), (3, .agg #[.int .i64 z.y.op, .int .i64 z.y.ov, .int .i64 z.y.oc]), (2, .pointer (some ⟨z.wb, 3, none⟩)), (1, .pointer (some ⟨z.wb, 0, none⟩)), (0, .pointer (some ⟨z.wb, 0, none⟩))]) (by kernel_rfl) ?_
 refine VT_load (d := 85) (t := 43) (a := ⟨b1, 5, none⟩) (v := .agg (iA .u8 ps)) (by kernel_rfl) (by kernel_rfl) ?_ ?_
 ·intro w22 hr10
  replace ho1 := ho1.step hr10 (by (try simp only); omega)
  exact (Loads.cellP ho1 hps (by kernel_rfl))
 refine VT_end ?_
 intro w23 hs9
 replace hS := passF_no hS hs9
 replace ho1 := ho1.no hs9
 replace hn1 := NdP.no hn1 hs9
 replace ho2 := ho2.no hs9
 replace hab2 := hab2.no hs9
 refine VL_keep [79, 82, 83, 85] [(79, .agg #[.int .i64 z.y.op, .int .i64 z.y.ov, .int .i64 z.y.oc]), (82, .int .i64 hh.p), (83, .int .i64 hh.l), (85, .agg (iA .u8 ps))] (by kernel_rfl) ?_
 have hzl36 := ho1.lt
 refine VL_call (d := 86) (f := 82) (args := #[.agg #[.int .i64 z.y.op, .int .i64 z.y.ov, .int .i64 z.y.oc], .int .i64 hh.p, .int .i64 hh.l, .agg (iA .u8 ps)]) (by kernel_rfl) (by kernel_rfl) (by kernel_rfl) Tryz.call82 (send_yes z.y.op z.y.ov z.y.oc hh.p hh.l ps _ hps hok) ?_
 rintro _ w24 ⟨A1, c1, rfl, hr11, hc3⟩
 replace hS := passF_no hS hc3
 replace ho1 := ho1.no hc3
 replace hn1 := NdP.no hn1 hc3
 replace ho2 := ho2.no hc3
 replace hab2 := hab2.no hc3
 obtain ⟨base1, hbase1E⟩ : ∃ x, x = w23.heap.size := ⟨_, rfl⟩
 rw [← hbase1E] at hr11
 have hzl41 := ho1.lt
 refine VL_bs (d := 87) (e := 67) (c := #[.int .i64 z.y.op, .slice A1 53 c1]) (len := 1) (by kernel_rfl) (by kernel_rfl) ?_
 intro b2 w25 hn2
 replace hS := passF_no hS (hn2.step No)
 replace hn1 := NdP.no hn1 (hn2.step No)
 replace ho2 := ho2.no (hn2.step No)
 replace hab2 := hab2.no (hn2.step No)
 replace hr11 := hr11.no (hn2.step No)
 have ho3 := hn2.own
 have hzhn2 := hn2.size
 have hqhn2 := hn2.eqb
 refine VL_pure 13 [8] [(8, .slice (some ⟨b2, 0, none⟩) 1 1)] (by kernel_rfl) rfl ?_
 refine VL_end (by kernel_rfl) ?_
 refine VQ_next ?_
 refine VC_ret ?_
 refine VQ_ret1 (.slice (some ⟨b2, 0, none⟩) 1 1) (.inr rfl) rfl rfl ?_
 have hcz := hpi.cn 6
 obtain ⟨oo1, oo2, oo3, oo4⟩ := h.out_ok z1
 have hX := h.passed (cn9 := bump st.cn 6) (al9 := userA z.y.al) hz hS (Own.cast ho2 TPl6ab) hn1 (fun q hq => (hX9 q hq).imp id (fun h9 => by omega)) TPl6ac (fun a b d => findC_setC (f := newR st.now hh.l) hn0.li.one (fun x => ⟨rfl, rfl, rfl⟩) a b d) (bump_le hpi.cn 6) hab2 (have h9 := hpi.als z.y TPl6ad; ⟨⟨h9.1.1, h9.1.2⟩, h9.2⟩)
 have hN : PNext w p X XB lo { st with L := verN st.L z.y.op z.y.ov z.y.oc st.now hh.l, cn := bump st.cn 6, W := setW st.W q v c (setAl (userA z.y.al)) } (n + 1) w25 := ⟨_, XB, ⟨_, hX⟩, fun k9 hk9 => by rcases hk9 with ⟨a, _⟩ | a; exact .inl a; exact (hX9 k9 a).imp (fun h9 => h.inX k9 (.inl h9)) (fun h9 => by omega), fun k9 hk9 => .inl hk9, Step.mono hS (fun k9 hk9 => by rcases hk9 with a | a | a; exact h.inX k9 (.inl a); rw [a]; exact h.inp.1; rw [a]; exact h.inX _ (.inr (.inr (.inr ⟨z, z1, .inr rfl⟩))))⟩
 exact ⟨⟨b2, A1, c1, rfl, ho3, by omega, Rw.low hr11 (by omega)⟩, hN⟩

/-- What is sent: nothing, or one cell. -/
def OutL (w w1 : World) (x : Value) (l : List (Int × List Int)) : Prop := (l = [] ∧ x = .slice none 0 0) ∨ ∃ q bs, l = [(q, bs)] ∧ Out1 w w1 x q bs
theorem OutL.low {w w0 w1 : World} {x : Value} {l : List (Int × List Int)} (h : OutL w w1 x l) (hw : w0.heap.size ≤ w.heap.size) : OutL w0 w1 x l := by
  rcases h with h | ⟨q, bs, h, b, A, c, e, ho, hb, hr⟩
  · exact .inl h
  · exact .inr ⟨q, bs, h, b, A, c, e, ho, Nat.le_trans hw hb, Rw.low hr hw⟩
theorem pass_any (p lo : Nat) (X XB : Nat → Prop) (g : PlG) (st : PS) (n : Nat) (w : World) (q v c : Int) (z : Wi) (hz : findWi g.wi q v c = some z) (hh : Hd) (ps : List Int) (hps : ps.length = 48) (hk : hdOk hh = true) (hn : n < 1152921504606846976) (user : Bool) (h : PnX w p X XB lo g st n) : CV Tryz.prog 70 #[.pointer (some ⟨p, 0, none⟩), .pointer (some ⟨z.wb, 0, none⟩), .agg (cellA hh ps), .bool user] w fun x w1 => OutL w w1 x (passO st z.y hh ps) ∧ PNext w p X XB lo (passS st q v c z.y hh user) (n + 1) w1 := by
  have hl : hh.l = 0 ∨ hh.l = 1 := by have := hdOk_iff.1 hk; omega
  by_cases h3 : verP st z.y hh = 3
  · have hO : passO st z.y hh ps = [] := by unfold passO; rw [if_pos h3]
    have hS : ∀ b, passS st q v c z.y hh b = { st with L := verN st.L z.y.op z.y.ov z.y.oc st.now hh.l, cn := bump st.cn 8, W := setW st.W q v c (setAl z.y.al) } := fun b => by
      unfold passS; rw [if_pos h3, if_neg (fun e => e.2 h3)]; rfl
    rw [hO]
    have hd : ∀ u w1 x, (x = Value.slice none 0 0 ∧ PNext w p X XB lo { st with L := verN st.L z.y.op z.y.ov z.y.oc st.now hh.l, cn := bump st.cn 8, W := setW st.W q v c (setAl z.y.al) } (n + 1) w1) → OutL w w1 x [] ∧ PNext w p X XB lo (passS st q v c z.y hh u) (n + 1) w1 := fun u w1 x h9 => ⟨.inl ⟨rfl, h9.1⟩, by rw [hS]; exact h9.2⟩
    cases user with
    | false => exact (pass_drop0 p lo X XB g st n w q v c z hz hh ps hps hk hn h3 h).mono fun x w1 h9 => hd _ _ _ h9
    | true => exact (pass_drop1 p lo X XB g st n w q v c z hz hh ps hps hk hn h3 h).mono fun x w1 h9 => hd _ _ _ h9
  · by_cases h2 : verP st z.y hh = 2
    · have hO : passO st z.y hh ps = [(z.y.op, buildL ⟨0, z.y.ov, z.y.oc, hh.p, 1⟩ ps)] := by unfold passO; rw [if_neg h3, if_pos h2]
      rw [hO]
      cases user with
      | false =>
        refine (pass_tag0 p lo X XB g st n w q v c z hz hh ps hps hk hn h2 h).mono fun x w1 h9 => ⟨.inr ⟨_, _, rfl, h9.1⟩, ?_⟩
        have : passS st q v c z.y hh false = { st with L := verN st.L z.y.op z.y.ov z.y.oc st.now hh.l, cn := bump st.cn 7, W := setW st.W q v c (setAl z.y.al) } := by
          unfold passS; rw [if_neg h3, if_pos h2, if_neg (fun e => by cases e.1)]; rfl
        rw [this]; exact h9.2
      | true =>
        refine (pass_tag1 p lo X XB g st n w q v c z hz hh ps hps hk hn h2 h).mono fun x w1 h9 => ⟨.inr ⟨_, _, rfl, h9.1⟩, ?_⟩
        have : passS st q v c z.y hh true = { st with L := verN st.L z.y.op z.y.ov z.y.oc st.now hh.l, cn := bump st.cn 7, W := setW st.W q v c (setAl (userA z.y.al)) } := by
          unfold passS; rw [if_neg h3, if_pos h2, if_pos ⟨rfl, h3⟩]; rfl
        rw [this]; exact h9.2
    · have hO : passO st z.y hh ps = [(z.y.op, buildL ⟨0, z.y.ov, z.y.oc, hh.p, hh.l⟩ ps)] := by unfold passO; rw [if_neg h3, if_neg h2]
      rw [hO]
      cases user with
      | false =>
        refine (pass_go0 p lo X XB g st n w q v c z hz hh ps hps hk hn h3 h2 hl h).mono fun x w1 h9 => ⟨.inr ⟨_, _, rfl, h9.1⟩, ?_⟩
        have : passS st q v c z.y hh false = { st with L := verN st.L z.y.op z.y.ov z.y.oc st.now hh.l, cn := bump st.cn 6, W := setW st.W q v c (setAl z.y.al) } := by
          unfold passS; rw [if_neg h3, if_neg h2, if_neg (fun e => by cases e.1)]; rfl
        rw [this]; exact h9.2
      | true =>
        refine (pass_go1 p lo X XB g st n w q v c z hz hh ps hps hk hn h3 h2 hl h).mono fun x w1 h9 => ⟨.inr ⟨_, _, rfl, h9.1⟩, ?_⟩
        have : passS st q v c z.y hh true = { st with L := verN st.L z.y.op z.y.ov z.y.oc st.now hh.l, cn := bump st.cn 6, W := setW st.W q v c (setAl (userA z.y.al)) } := by
          unfold passS; rw [if_neg h3, if_neg h2, if_pos ⟨rfl, h3⟩]; rfl
        rw [this]; exact h9.2
end Go.Proofs.YtcablikikkmfjaaGreat
end

section
/- Layer 22: a cell comes. -/
set_option linter.unusedVariables false
set_option linter.unusedSimpArgs false
set_option maxRecDepth 100000
set_option maxHeartbeats 4000000
namespace Go.Proofs.YtcablikikkmfjaaGreat
open Go.Vc Go.RowKit
theorem TPl7ab {P : Prop} (h : P := by unfold plA; simp only [hla9]) : P := h

theorem comes_raw (p : Nat) (g : PlG) (st : PS) (w : World) (t : Int) (ht : st.now ≤ t ∧ t ≤ 1152921504606846976) (hp : Own w p #[Pt g.nd 0, .slice (some ⟨g.lb, 0, none⟩) st.lk.length g.lc, Pt g.tb 0, .map (some g.wm), .map (some g.cm), I6 st.tm.s, I6 st.tm.c, I6 st.tm.r, I6 st.wait, I6 ((g.next : Nat) : Int), I6 st.now, I6 (st.cn 0), I6 (st.cn 1), I6 (st.cn 2), I6 (st.cn 3), I6 (st.cn 4), I6 (st.cn 5), I6 (st.cn 6), I6 (st.cn 7), I6 (st.cn 8)] 129) :
  CV Tryz.prog 66 #[Pt p 0, I6 t] w (fun x w1 => x = I6 0 ∧ Step No w w1) := by
 have hS : Step No w w := Step.refl _ _
 refine VCe Tryz.func66 (Vrp (Vs (VC_block (Vrp (Vf (Vs (Vr (Vl 4 hp (Vp 7 (Vkn 15 (decide (t < st.now)) false (decide_eq_false (by omega)) (Ve (Vn (Viz (b := decide (t > 1152921504606846976)) (decide_eq_false (by omega)) (VC_skip (VQ_block_normal (Vn (Vs (Vr ?_))))))))))))))))))
 refine Ve (Vn (VC_ret (Vr1 (I6 0) ?_)))
 exact ⟨rfl, hS⟩

theorem arr_pass1 (p lo : Nat) (X XB : Nat → Prop) (g : PlG) (st : PS) (n : Nat) (w : World) (i : Nat) (l : Lk) (t : Int) (A : Option Addr) (m c9 : Nat) (XA : Nat → Prop) (bs : List Int) (hl : st.lk[i]? = some l) (ht : st.now ≤ t ∧ t ≤ 1152921504606846976) (hm : bs.length = m) (hA : SlX w 5 XA A (iL .u8 bs)) (hb : Bytes bs) (hmc : m ≤ c9) (hn : n < 1152921504606846000) (he : parseE l.cf bs = 0) (hx : emptyH (parseH l.cf bs) = false) (hk : kindH (parseH l.cf bs) = 1) (hsg : ((kindH (parseH l.cf bs) == 1) && ((parseH l.cf bs).v == 0) && ((parseH l.cf bs).c == 5)) = false) (y : Wy) (hf : findW (recvS st i t bs).W ((i : Nat) : Int) (parseH l.cf bs).v (parseH l.cf bs).c = some y) (h : PnX w p X XB lo g st n)  :
  CV Tryz.prog 20 #[Pt p 0, I6 t, I6 ((i : Nat) : Int), .slice A m c9] w (fun x w1 => ∃ xo, x = .tuple #[xo, I6 0] ∧ OutL w w1 xo (passO (recvS st i t bs) y (parseH l.cf bs) (parseP l.cf bs)) ∧ PNext w p X XB lo (passS (recvS st i t bs) ((i : Nat) : Int) (parseH l.cf bs).v (parseH l.cf bs).c y (parseH l.cf bs) (kindH (parseH l.cf bs) == 1)) (n + 1) w1) := by
 have hi := (List.getElem?_eq_some_iff.1 hl).1
 obtain ⟨⟨r0, d0, hlk⟩, hga⟩ := h.s.lnk i l hl
 obtain ⟨hla9, hrow⟩ := h.s.row (by omega)
 have hpi := h.pi
 have hS : Step (parF g p i) w w := Step.refl _ _
 have hp := h.own
 unfold plA at hp
 rw [hla9] at hp
 have t1 := h.t_p
 have t5 := h.s.t_lg hi
 have t6 := h.s.t_lb (by omega)
 have hne : p ≠ g.lg i := fun e => by rw [e] at t1; omega
 have hne2 : g.lb ≠ p := fun e => by rw [e] at t6; omega
 have hne3 : g.lb ≠ g.lg i := fun e => by rw [e] at t6; omega
 have hwl : w.heap.size ≤ w.heap.size := Nat.le_refl _
 have hok0 : lkOk st ((i : Nat) : Int) = true := lkOk_iff.2 ⟨by omega, by omega⟩
 have ht0 : 0 ≤ t := by have := hpi.now; omega
 refine VCe Tryz.func20 (Vrp (Vs (Vs (Vr (Vp 2 ?_)))))
 refine Vc 2 Tryz.call66 (comes_raw p g st _ t ht hp) ?_
 rintro _ w1 ⟨rfl, hc1⟩
 replace hS := parF_no hS hc1
 replace hp := hp.no hc1
 replace hlk := hlk.no hc1
 replace hrow := RowE.no hrow hc1
 replace hA := hA.no hc1
 replace hwl := Nat.le_trans hwl (hc1).size
 refine Ve (Vn (Vrp (Vf (VC_skip (Vn (Vs (Vs (Vr (Vp 2 ?_)))))))))
 refine Vc 2 Tryz.call55 (linked_raw p g st ((i : Nat) : Int) _ (Own.cast hp TPl7ab)) ?_
 rintro _ w2 ⟨rfl, hc2⟩
 replace hS := parF_no hS hc2
 replace hp := hp.no hc2
 replace hlk := hlk.no hc2
 replace hrow := RowE.no hrow hc2
 replace hA := hA.no hc2
 replace hwl := Nat.le_trans hwl (hc2).size
 refine Ve (Vn (Viz (b := !(lkOk st ((i : Nat) : Int))) (by rw [hok0]; rfl) (VC_skip (Vn (Vs (Vr (Vst 4 (o := 10) [I6 t] hp #[Pt g.nd 0, .slice (some ⟨g.lb, 0, none⟩) st.lk.length g.lc, Pt g.tb 0, .map (some g.wm), .map (some g.cm), I6 st.tm.s, I6 st.tm.c, I6 st.tm.r, I6 st.wait, I6 ((g.next : Nat) : Int), I6 t, I6 (st.cn 0), I6 (st.cn 1), I6 (st.cn 2), I6 (st.cn 3), I6 (st.cn 4), I6 (st.cn 5), I6 (st.cn 6), I6 (st.cn 7), I6 (st.cn 8)] ?_)))))))
 intro w3 hw1
 replace hS := Step.trans hS (Step.mono hw1.step (fun i9 h9 => .inl h9))
 replace hlk := hlk.step hw1.step (show ¬ (g.lg i) = p by omega)
 replace hrow := RowE.step hrow hw1.step (show ¬ g.lb = p by omega)
 replace hA := hA.own hp (by decide) hw1.step
 replace hwl := Nat.le_trans hwl (hw1.step).size
 have ho1 := hw1.own
 refine Ve (Vn (Vs (Vr (Vl 3 ho1 (Vp 5 (VL_index (d := 36) (b := g.lb) (o := 0) (len := st.lk.length) (sz := 1) (m := ((i : Nat) : Int)) (by kernel_rfl) (by kernel_rfl) i (by rfl) (by omega) i (by omega) (Vla 6 (t := 130) (a := ⟨g.lb, i, none⟩) (v := .pointer (some ⟨(g.lg i), 0, none⟩)) (RowE.ldp hrow (by kernel_rfl) hi) (Ve (Vn (Vs (Vr (Vp 4 ?_))))))))))))
 refine Vc 4 Tryz.call25 (lkparse_any (g.lg i) r0 d0 l.cf (g.gg i) l.dn A m c9 XA bs _ hm hA hb hmc hlk) ?_
 rintro _ w4 ⟨rfl, ⟨r1, d1, hlk2⟩, hc3⟩
 replace hS := Step.trans hS (Step.mono hc3 (fun i9 h9 => .inr h9))
 replace hwl := Nat.le_trans hwl (hc3).size
 replace ho1 := ho1.step hc3 (show ¬ p = (g.lg i) by omega)
 refine Vp 8 ?_
 have hzk1 := hwl
 have hzl11 := ho1.lt
 have hzl12 := hlk2.lt
 refine Vx 8 45 (cellA Hd.z (List.replicate 48 0)) ?_
 intro b1 w5 hn1
 replace hS := parF_no hS (hn1.step No)
 replace hwl := Nat.le_trans hwl (hn1.step No).size
 replace ho1 := ho1.no (hn1.step No)
 replace hlk2 := hlk2.no (hn1.step No)
 have ho2 := hn1.own
 have hzhn1 := hn1.size
 have hqhn1 := hn1.eqb
 refine VL_storeC (b := b1) (h' := (parseH l.cf bs)) (ps := (parseP l.cf bs)) (by kernel_rfl) (by kernel_rfl) ho2 (parseP_len l.cf bs) (List.length_replicate ..) ?_
 intro w6 hw2
 replace hS := Step.transNew hS hw2.step (fun i9 hi9 hF9 => by have hF8 : i9 = b1 := hF9; omega)
 replace hwl := Nat.le_trans hwl (hw2.step).size
 replace ho1 := ho1.step hw2.step (show ¬ p = b1 by omega)
 replace hlk2 := hlk2.step hw2.step (show ¬ (g.lg i) = b1 by omega)
 have ho3 : Own w6 b1 (cellA (parseH l.cf bs) (parseP l.cf bs)) 45 := hw2.own
 have hzhw2 := hw2.same
 refine Ve (Vn (Vs ?_))
 have hq := h.parsed (b := bs) hl hS ⟨ht0, ht.2⟩ (Own.cast ho1 TPl7ab) hlk2
 have hS0 := hS
 obtain ⟨wq, hwq⟩ : ∃ x, x = w6 := ⟨_, rfl⟩
 have hS3 : Step No wq w6 := by rw [hwq]; exact Step.refl _ _
 rw [← hwq] at hS0 hq
 refine Vr (Vla 1 (t := 40) (a := ⟨b1, 0, none⟩) (v := .agg #[I6 ((parseH l.cf bs).g), I6 ((parseH l.cf bs).v), I6 ((parseH l.cf bs).c), I6 ((parseH l.cf bs).p), I6 ((parseH l.cf bs).l)]) (Loads.cellH ho3 (by kernel_rfl)) ?_)
 refine Vc 2 Tryz.call67 (kind_any (parseH l.cf bs) _) ?_
 rintro _ w7 ⟨rfl, hc4⟩
 replace ho3 := ho3.no hc4
 replace hS3 := Step.trans hS3 hc4
 replace hwl := Nat.le_trans hwl (hc4).size
 refine Ve (Vn (Vs (VC_block (Vrp (Viz (b := (parseE l.cf bs) != 0) (by rw [he]; rfl) (Vs (Vr (Vla 0 (t := 45) (a := ⟨b1, 0, none⟩) (v := .agg (cellA (parseH l.cf bs) (parseP l.cf bs))) (Loads.cellC ho3 (parseP_len l.cf bs) (by kernel_rfl)) ?_))))))))
 refine Vc 1 Tryz.call26 (empty_any (parseH l.cf bs) (parseP l.cf bs) _ (parseP_len l.cf bs)) ?_
 rintro _ w8 ⟨rfl, hc5⟩
 replace ho3 := ho3.no hc5
 replace hS3 := Step.trans hS3 hc5
 replace hwl := Nat.le_trans hwl (hc5).size
 refine Ve (Vn (Viz (b := emptyH (parseH l.cf bs)) hx (Vs (Vr (Vp 3 (Vand 77 82 8 [0, 2, 12, 14] ((kindH (parseH l.cf bs)) == 1) (((parseH l.cf bs).v) == 0) (fun hg1 J1 => ?_) ?_))))))
 ·refine Vla 5 (t := 3) (a := ⟨b1, 1, none⟩) (v := I6 ((parseH l.cf bs).v)) (Loads.cellF (i := 1) ho3 (by kernel_rfl) (by decide) rfl) ?_
  exact Vp 8 (Vk [82, 0, 2, 12, 14] J1)
 refine Vp 9 (Vand 83 88 14 [0, 2, 12, 14] (((kindH (parseH l.cf bs)) == 1) && (((parseH l.cf bs).v) == 0)) (((parseH l.cf bs).c) == 5) (fun hg2 J2 => ?_) ?_)
 ·refine Vla 11 (t := 3) (a := ⟨b1, 2, none⟩) (v := I6 ((parseH l.cf bs).c)) (Loads.cellF (i := 2) ho3 (by kernel_rfl) (by decide) rfl) ?_
  exact Vp 14 (Vk [88, 0, 2, 12, 14] J2)
 refine Ve (Vn (Viz (b := (((kindH (parseH l.cf bs)) == 1) && (((parseH l.cf bs).v) == 0)) && (((parseH l.cf bs).c) == 5)) hsg (VC_skip (VQ_block_normal (Vn (Vs (Vr (Vla 4 (t := 3) (a := ⟨b1, 1, none⟩) (v := I6 ((parseH l.cf bs).v)) (Loads.cellF (i := 1) ho3 (by kernel_rfl) (by decide) rfl) (Vla 7 (t := 3) (a := ⟨b1, 2, none⟩) (v := I6 ((parseH l.cf bs).c)) (Loads.cellF (i := 2) ho3 (by kernel_rfl) (by decide) rfl) (Vp 9 ?_))))))))))
 refine Vc 9 Tryz.call57 (find_yes p lo X XB g (recvS st i t bs) n _ ((i : Nat) : Int) (parseH l.cf bs).v (parseH l.cf bs).c y hf (hq.no hS3)) ?_
 rintro _ w9 ⟨z, hz, hzy, rfl, hc6⟩
 replace ho3 := ho3.no hc6
 replace hS3 := Step.trans hS3 hc6
 replace hwl := Nat.le_trans hwl (hc6).size
 refine Ve (Vn (Vs (Vrp (Vf (VC_skip (Vn (Vs (Vrp (VC_block (Vrp (Viz (b := (kindH (parseH l.cf bs)) == 6) (by rw [hk]; rfl) (Vs (Vs (Vr (Ve ?_)))))))))))))))
 refine Vn (Vit (b := (kindH (parseH l.cf bs)) == 1) (by rw [hk]; rfl) (VC_skip (Vn (Vit (b := (kindH (parseH l.cf bs)) == 1) (by rw [hk]; rfl) (Vs (Vr (Vla 2 (t := 45) (a := ⟨b1, 0, none⟩) (v := .agg (cellA (parseH l.cf bs) (parseP l.cf bs))) (Loads.cellC ho3 (parseP_len l.cf bs) (by kernel_rfl)) (Vp 5 ?_))))))))
 have hzl20 := ho3.lt
 have hzo7 := hwl
 refine Vc 5 Tryz.call70 (pass_any p lo X XB g (recvS st i t bs) n _ ((i : Nat) : Int) (parseH l.cf bs).v (parseH l.cf bs).c z hz (parseH l.cf bs) (parseP l.cf bs) (parseP_len _ _) (parseH_ok _ _) (by omega) ((kindH (parseH l.cf bs)) == 1) (hq.no hS3)) ?_
 rintro v7 w10 ⟨hO, hN⟩
 refine Ve (Vn (VC_ret (VQ_block_ret (VQ_then_ret (Vr2 v7 (I6 0) ?_)))))
 obtain ⟨X9, XB9, hP9, hX9, hB9, hS9⟩ := hN
 exact ⟨_, rfl, by subst hzy; exact hO.low (by omega), X9, XB9, by subst hzy; exact hP9, fun k9 hk9 => (hX9 k9 hk9).imp id (fun h9 => by omega), fun k9 hk9 => (hB9 k9 hk9).imp id (fun h9 => by omega), Step.trans (Step.mono hS0 (parF_X h hi)) (Step.trans (Step.mono hS3 (fun _ h9 => h9.elim)) hS9)⟩

theorem arr_pass7 (p lo : Nat) (X XB : Nat → Prop) (g : PlG) (st : PS) (n : Nat) (w : World) (i : Nat) (l : Lk) (t : Int) (A : Option Addr) (m c9 : Nat) (XA : Nat → Prop) (bs : List Int) (hl : st.lk[i]? = some l) (ht : st.now ≤ t ∧ t ≤ 1152921504606846976) (hm : bs.length = m) (hA : SlX w 5 XA A (iL .u8 bs)) (hb : Bytes bs) (hmc : m ≤ c9) (hn : n < 1152921504606846000) (he : parseE l.cf bs = 0) (hx : emptyH (parseH l.cf bs) = false) (hk : kindH (parseH l.cf bs) = 7) (y : Wy) (hf : findW (recvS st i t bs).W ((i : Nat) : Int) (parseH l.cf bs).v (parseH l.cf bs).c = some y) (h : PnX w p X XB lo g st n)  :
  CV Tryz.prog 20 #[Pt p 0, I6 t, I6 ((i : Nat) : Int), .slice A m c9] w (fun x w1 => ∃ xo, x = .tuple #[xo, I6 0] ∧ OutL w w1 xo (passO (recvS st i t bs) y (parseH l.cf bs) (parseP l.cf bs)) ∧ PNext w p X XB lo (passS (recvS st i t bs) ((i : Nat) : Int) (parseH l.cf bs).v (parseH l.cf bs).c y (parseH l.cf bs) (kindH (parseH l.cf bs) == 1)) (n + 1) w1) := by
 have hi := (List.getElem?_eq_some_iff.1 hl).1
 obtain ⟨⟨r0, d0, hlk⟩, hga⟩ := h.s.lnk i l hl
 obtain ⟨hla9, hrow⟩ := h.s.row (by omega)
 have hpi := h.pi
 have hS : Step (parF g p i) w w := Step.refl _ _
 have hp := h.own
 unfold plA at hp
 rw [hla9] at hp
 have t1 := h.t_p
 have t5 := h.s.t_lg hi
 have t6 := h.s.t_lb (by omega)
 have hne : p ≠ g.lg i := fun e => by rw [e] at t1; omega
 have hne2 : g.lb ≠ p := fun e => by rw [e] at t6; omega
 have hne3 : g.lb ≠ g.lg i := fun e => by rw [e] at t6; omega
 have hwl : w.heap.size ≤ w.heap.size := Nat.le_refl _
 have hok0 : lkOk st ((i : Nat) : Int) = true := lkOk_iff.2 ⟨by omega, by omega⟩
 have ht0 : 0 ≤ t := by have := hpi.now; omega
 have hsg : ((kindH (parseH l.cf bs) == 1) && ((parseH l.cf bs).v == 0) && ((parseH l.cf bs).c == 5)) = false := by rw [hk]; rfl
 refine VCe Tryz.func20 (Vrp (Vs (Vs (Vr (Vp 2 ?_)))))
 refine Vc 2 Tryz.call66 (comes_raw p g st _ t ht hp) ?_
 rintro _ w1 ⟨rfl, hc1⟩
 replace hS := parF_no hS hc1
 replace hp := hp.no hc1
 replace hlk := hlk.no hc1
 replace hrow := RowE.no hrow hc1
 replace hA := hA.no hc1
 replace hwl := Nat.le_trans hwl (hc1).size
 refine Ve (Vn (Vrp (Vf (VC_skip (Vn (Vs (Vs (Vr (Vp 2 ?_)))))))))
 refine Vc 2 Tryz.call55 (linked_raw p g st ((i : Nat) : Int) _ (Own.cast hp TPl7ab)) ?_
 rintro _ w2 ⟨rfl, hc2⟩
 replace hS := parF_no hS hc2
 replace hp := hp.no hc2
 replace hlk := hlk.no hc2
 replace hrow := RowE.no hrow hc2
 replace hA := hA.no hc2
 replace hwl := Nat.le_trans hwl (hc2).size
 refine Ve (Vn (Viz (b := !(lkOk st ((i : Nat) : Int))) (by rw [hok0]; rfl) (VC_skip (Vn (Vs (Vr (Vst 4 (o := 10) [I6 t] hp #[Pt g.nd 0, .slice (some ⟨g.lb, 0, none⟩) st.lk.length g.lc, Pt g.tb 0, .map (some g.wm), .map (some g.cm), I6 st.tm.s, I6 st.tm.c, I6 st.tm.r, I6 st.wait, I6 ((g.next : Nat) : Int), I6 t, I6 (st.cn 0), I6 (st.cn 1), I6 (st.cn 2), I6 (st.cn 3), I6 (st.cn 4), I6 (st.cn 5), I6 (st.cn 6), I6 (st.cn 7), I6 (st.cn 8)] ?_)))))))
 intro w3 hw1
 replace hS := Step.trans hS (Step.mono hw1.step (fun i9 h9 => .inl h9))
 replace hlk := hlk.step hw1.step (show ¬ (g.lg i) = p by omega)
 replace hrow := RowE.step hrow hw1.step (show ¬ g.lb = p by omega)
 replace hA := hA.own hp (by decide) hw1.step
 replace hwl := Nat.le_trans hwl (hw1.step).size
 have ho1 := hw1.own
 refine Ve (Vn (Vs (Vr (Vl 3 ho1 (Vp 5 (VL_index (d := 36) (b := g.lb) (o := 0) (len := st.lk.length) (sz := 1) (m := ((i : Nat) : Int)) (by kernel_rfl) (by kernel_rfl) i (by rfl) (by omega) i (by omega) (Vla 6 (t := 130) (a := ⟨g.lb, i, none⟩) (v := .pointer (some ⟨(g.lg i), 0, none⟩)) (RowE.ldp hrow (by kernel_rfl) hi) (Ve (Vn (Vs (Vr (Vp 4 ?_))))))))))))
 refine Vc 4 Tryz.call25 (lkparse_any (g.lg i) r0 d0 l.cf (g.gg i) l.dn A m c9 XA bs _ hm hA hb hmc hlk) ?_
 rintro _ w4 ⟨rfl, ⟨r1, d1, hlk2⟩, hc3⟩
 replace hS := Step.trans hS (Step.mono hc3 (fun i9 h9 => .inr h9))
 replace hwl := Nat.le_trans hwl (hc3).size
 replace ho1 := ho1.step hc3 (show ¬ p = (g.lg i) by omega)
 refine Vp 8 ?_
 have hzk1 := hwl
 have hzl11 := ho1.lt
 have hzl12 := hlk2.lt
 refine Vx 8 45 (cellA Hd.z (List.replicate 48 0)) ?_
 intro b1 w5 hn1
 replace hS := parF_no hS (hn1.step No)
 replace hwl := Nat.le_trans hwl (hn1.step No).size
 replace ho1 := ho1.no (hn1.step No)
 replace hlk2 := hlk2.no (hn1.step No)
 have ho2 := hn1.own
 have hzhn1 := hn1.size
 have hqhn1 := hn1.eqb
 refine VL_storeC (b := b1) (h' := (parseH l.cf bs)) (ps := (parseP l.cf bs)) (by kernel_rfl) (by kernel_rfl) ho2 (parseP_len l.cf bs) (List.length_replicate ..) ?_
 intro w6 hw2
 replace hS := Step.transNew hS hw2.step (fun i9 hi9 hF9 => by have hF8 : i9 = b1 := hF9; omega)
 replace hwl := Nat.le_trans hwl (hw2.step).size
 replace ho1 := ho1.step hw2.step (show ¬ p = b1 by omega)
 replace hlk2 := hlk2.step hw2.step (show ¬ (g.lg i) = b1 by omega)
 have ho3 : Own w6 b1 (cellA (parseH l.cf bs) (parseP l.cf bs)) 45 := hw2.own
 have hzhw2 := hw2.same
 refine Ve (Vn (Vs ?_))
 have hq := h.parsed (b := bs) hl hS ⟨ht0, ht.2⟩ (Own.cast ho1 TPl7ab) hlk2
 have hS0 := hS
 obtain ⟨wq, hwq⟩ : ∃ x, x = w6 := ⟨_, rfl⟩
 have hS3 : Step No wq w6 := by rw [hwq]; exact Step.refl _ _
 rw [← hwq] at hS0 hq
 refine Vr (Vla 1 (t := 40) (a := ⟨b1, 0, none⟩) (v := .agg #[I6 ((parseH l.cf bs).g), I6 ((parseH l.cf bs).v), I6 ((parseH l.cf bs).c), I6 ((parseH l.cf bs).p), I6 ((parseH l.cf bs).l)]) (Loads.cellH ho3 (by kernel_rfl)) ?_)
 refine Vc 2 Tryz.call67 (kind_any (parseH l.cf bs) _) ?_
 rintro _ w7 ⟨rfl, hc4⟩
 replace ho3 := ho3.no hc4
 replace hS3 := Step.trans hS3 hc4
 replace hwl := Nat.le_trans hwl (hc4).size
 refine Ve (Vn (Vs (VC_block (Vrp (Viz (b := (parseE l.cf bs) != 0) (by rw [he]; rfl) (Vs (Vr (Vla 0 (t := 45) (a := ⟨b1, 0, none⟩) (v := .agg (cellA (parseH l.cf bs) (parseP l.cf bs))) (Loads.cellC ho3 (parseP_len l.cf bs) (by kernel_rfl)) ?_))))))))
 refine Vc 1 Tryz.call26 (empty_any (parseH l.cf bs) (parseP l.cf bs) _ (parseP_len l.cf bs)) ?_
 rintro _ w8 ⟨rfl, hc5⟩
 replace ho3 := ho3.no hc5
 replace hS3 := Step.trans hS3 hc5
 replace hwl := Nat.le_trans hwl (hc5).size
 refine Ve (Vn (Viz (b := emptyH (parseH l.cf bs)) hx (Vs (Vr (Vp 3 (Vand 77 82 8 [0, 2, 12, 14] ((kindH (parseH l.cf bs)) == 1) (((parseH l.cf bs).v) == 0) (fun hg1 J1 => ?_) ?_))))))
 ·refine Vla 5 (t := 3) (a := ⟨b1, 1, none⟩) (v := I6 ((parseH l.cf bs).v)) (Loads.cellF (i := 1) ho3 (by kernel_rfl) (by decide) rfl) ?_
  exact Vp 8 (Vk [82, 0, 2, 12, 14] J1)
 refine Vp 9 (Vand 83 88 14 [0, 2, 12, 14] (((kindH (parseH l.cf bs)) == 1) && (((parseH l.cf bs).v) == 0)) (((parseH l.cf bs).c) == 5) (fun hg2 J2 => ?_) ?_)
 ·refine Vla 11 (t := 3) (a := ⟨b1, 2, none⟩) (v := I6 ((parseH l.cf bs).c)) (Loads.cellF (i := 2) ho3 (by kernel_rfl) (by decide) rfl) ?_
  exact Vp 14 (Vk [88, 0, 2, 12, 14] J2)
 refine Ve (Vn (Viz (b := (((kindH (parseH l.cf bs)) == 1) && (((parseH l.cf bs).v) == 0)) && (((parseH l.cf bs).c) == 5)) hsg (VC_skip (VQ_block_normal (Vn (Vs (Vr (Vla 4 (t := 3) (a := ⟨b1, 1, none⟩) (v := I6 ((parseH l.cf bs).v)) (Loads.cellF (i := 1) ho3 (by kernel_rfl) (by decide) rfl) (Vla 7 (t := 3) (a := ⟨b1, 2, none⟩) (v := I6 ((parseH l.cf bs).c)) (Loads.cellF (i := 2) ho3 (by kernel_rfl) (by decide) rfl) (Vp 9 ?_))))))))))
 refine Vc 9 Tryz.call57 (find_yes p lo X XB g (recvS st i t bs) n _ ((i : Nat) : Int) (parseH l.cf bs).v (parseH l.cf bs).c y hf (hq.no hS3)) ?_
 rintro _ w9 ⟨z, hz, hzy, rfl, hc6⟩
 replace ho3 := ho3.no hc6
 replace hS3 := Step.trans hS3 hc6
 replace hwl := Nat.le_trans hwl (hc6).size
 refine Ve (Vn (Vs (Vrp (Vf (VC_skip (Vn (Vs (Vrp (VC_block (Vrp (Viz (b := (kindH (parseH l.cf bs)) == 6) (by rw [hk]; rfl) (Vs (Vs (Vr (Ve ?_)))))))))))))))
 refine Vn (Viz (b := (kindH (parseH l.cf bs)) == 1) (by rw [hk]; rfl) (Vrp (Vit (b := (kindH (parseH l.cf bs)) == 7) (by rw [hk]; rfl) (VC_skip (Vn (Vit (b := (kindH (parseH l.cf bs)) == 7) (by rw [hk]; rfl) (Vs (Vr (Vla 2 (t := 45) (a := ⟨b1, 0, none⟩) (v := .agg (cellA (parseH l.cf bs) (parseP l.cf bs))) (Loads.cellC ho3 (parseP_len l.cf bs) (by kernel_rfl)) (Vp 5 ?_))))))))))
 have hzl20 := ho3.lt
 have hzo7 := hwl
 refine Vc 5 Tryz.call70 (pass_any p lo X XB g (recvS st i t bs) n _ ((i : Nat) : Int) (parseH l.cf bs).v (parseH l.cf bs).c z hz (parseH l.cf bs) (parseP l.cf bs) (parseP_len _ _) (parseH_ok _ _) (by omega) ((kindH (parseH l.cf bs)) == 1) (hq.no hS3)) ?_
 rintro v7 w10 ⟨hO, hN⟩
 refine Ve (Vn (VC_ret (VQ_block_ret (VQ_then_ret (Vr2 v7 (I6 0) ?_)))))
 obtain ⟨X9, XB9, hP9, hX9, hB9, hS9⟩ := hN
 exact ⟨_, rfl, by subst hzy; exact hO.low (by omega), X9, XB9, by subst hzy; exact hP9, fun k9 hk9 => (hX9 k9 hk9).imp id (fun h9 => by omega), fun k9 hk9 => (hB9 k9 hk9).imp id (fun h9 => by omega), Step.trans (Step.mono hS0 (parF_X h hi)) (Step.trans (Step.mono hS3 (fun _ h9 => h9.elim)) hS9)⟩

theorem arr_pass8 (p lo : Nat) (X XB : Nat → Prop) (g : PlG) (st : PS) (n : Nat) (w : World) (i : Nat) (l : Lk) (t : Int) (A : Option Addr) (m c9 : Nat) (XA : Nat → Prop) (bs : List Int) (hl : st.lk[i]? = some l) (ht : st.now ≤ t ∧ t ≤ 1152921504606846976) (hm : bs.length = m) (hA : SlX w 5 XA A (iL .u8 bs)) (hb : Bytes bs) (hmc : m ≤ c9) (hn : n < 1152921504606846000) (he : parseE l.cf bs = 0) (hx : emptyH (parseH l.cf bs) = false) (hk : kindH (parseH l.cf bs) = 8) (y : Wy) (hf : findW (recvS st i t bs).W ((i : Nat) : Int) (parseH l.cf bs).v (parseH l.cf bs).c = some y) (h : PnX w p X XB lo g st n)  :
  CV Tryz.prog 20 #[Pt p 0, I6 t, I6 ((i : Nat) : Int), .slice A m c9] w (fun x w1 => ∃ xo, x = .tuple #[xo, I6 0] ∧ OutL w w1 xo (passO (recvS st i t bs) y (parseH l.cf bs) (parseP l.cf bs)) ∧ PNext w p X XB lo (passS (recvS st i t bs) ((i : Nat) : Int) (parseH l.cf bs).v (parseH l.cf bs).c y (parseH l.cf bs) (kindH (parseH l.cf bs) == 1)) (n + 1) w1) := by
 have hi := (List.getElem?_eq_some_iff.1 hl).1
 obtain ⟨⟨r0, d0, hlk⟩, hga⟩ := h.s.lnk i l hl
 obtain ⟨hla9, hrow⟩ := h.s.row (by omega)
 have hpi := h.pi
 have hS : Step (parF g p i) w w := Step.refl _ _
 have hp := h.own
 unfold plA at hp
 rw [hla9] at hp
 have t1 := h.t_p
 have t5 := h.s.t_lg hi
 have t6 := h.s.t_lb (by omega)
 have hne : p ≠ g.lg i := fun e => by rw [e] at t1; omega
 have hne2 : g.lb ≠ p := fun e => by rw [e] at t6; omega
 have hne3 : g.lb ≠ g.lg i := fun e => by rw [e] at t6; omega
 have hwl : w.heap.size ≤ w.heap.size := Nat.le_refl _
 have hok0 : lkOk st ((i : Nat) : Int) = true := lkOk_iff.2 ⟨by omega, by omega⟩
 have ht0 : 0 ≤ t := by have := hpi.now; omega
 have hsg : ((kindH (parseH l.cf bs) == 1) && ((parseH l.cf bs).v == 0) && ((parseH l.cf bs).c == 5)) = false := by rw [hk]; rfl
 refine VCe Tryz.func20 (Vrp (Vs (Vs (Vr (Vp 2 ?_)))))
 refine Vc 2 Tryz.call66 (comes_raw p g st _ t ht hp) ?_
 rintro _ w1 ⟨rfl, hc1⟩
 replace hS := parF_no hS hc1
 replace hp := hp.no hc1
 replace hlk := hlk.no hc1
 replace hrow := RowE.no hrow hc1
 replace hA := hA.no hc1
 replace hwl := Nat.le_trans hwl (hc1).size
 refine Ve (Vn (Vrp (Vf (VC_skip (Vn (Vs (Vs (Vr (Vp 2 ?_)))))))))
 refine Vc 2 Tryz.call55 (linked_raw p g st ((i : Nat) : Int) _ (Own.cast hp TPl7ab)) ?_
 rintro _ w2 ⟨rfl, hc2⟩
 replace hS := parF_no hS hc2
 replace hp := hp.no hc2
 replace hlk := hlk.no hc2
 replace hrow := RowE.no hrow hc2
 replace hA := hA.no hc2
 replace hwl := Nat.le_trans hwl (hc2).size
 refine Ve (Vn (Viz (b := !(lkOk st ((i : Nat) : Int))) (by rw [hok0]; rfl) (VC_skip (Vn (Vs (Vr (Vst 4 (o := 10) [I6 t] hp #[Pt g.nd 0, .slice (some ⟨g.lb, 0, none⟩) st.lk.length g.lc, Pt g.tb 0, .map (some g.wm), .map (some g.cm), I6 st.tm.s, I6 st.tm.c, I6 st.tm.r, I6 st.wait, I6 ((g.next : Nat) : Int), I6 t, I6 (st.cn 0), I6 (st.cn 1), I6 (st.cn 2), I6 (st.cn 3), I6 (st.cn 4), I6 (st.cn 5), I6 (st.cn 6), I6 (st.cn 7), I6 (st.cn 8)] ?_)))))))
 intro w3 hw1
 replace hS := Step.trans hS (Step.mono hw1.step (fun i9 h9 => .inl h9))
 replace hlk := hlk.step hw1.step (show ¬ (g.lg i) = p by omega)
 replace hrow := RowE.step hrow hw1.step (show ¬ g.lb = p by omega)
 replace hA := hA.own hp (by decide) hw1.step
 replace hwl := Nat.le_trans hwl (hw1.step).size
 have ho1 := hw1.own
 refine Ve (Vn (Vs (Vr (Vl 3 ho1 (Vp 5 (VL_index (d := 36) (b := g.lb) (o := 0) (len := st.lk.length) (sz := 1) (m := ((i : Nat) : Int)) (by kernel_rfl) (by kernel_rfl) i (by rfl) (by omega) i (by omega) (Vla 6 (t := 130) (a := ⟨g.lb, i, none⟩) (v := .pointer (some ⟨(g.lg i), 0, none⟩)) (RowE.ldp hrow (by kernel_rfl) hi) (Ve (Vn (Vs (Vr (Vp 4 ?_))))))))))))
 refine Vc 4 Tryz.call25 (lkparse_any (g.lg i) r0 d0 l.cf (g.gg i) l.dn A m c9 XA bs _ hm hA hb hmc hlk) ?_
 rintro _ w4 ⟨rfl, ⟨r1, d1, hlk2⟩, hc3⟩
 replace hS := Step.trans hS (Step.mono hc3 (fun i9 h9 => .inr h9))
 replace hwl := Nat.le_trans hwl (hc3).size
 replace ho1 := ho1.step hc3 (show ¬ p = (g.lg i) by omega)
 refine Vp 8 ?_
 have hzk1 := hwl
 have hzl11 := ho1.lt
 have hzl12 := hlk2.lt
 refine Vx 8 45 (cellA Hd.z (List.replicate 48 0)) ?_
 intro b1 w5 hn1
 replace hS := parF_no hS (hn1.step No)
 replace hwl := Nat.le_trans hwl (hn1.step No).size
 replace ho1 := ho1.no (hn1.step No)
 replace hlk2 := hlk2.no (hn1.step No)
 have ho2 := hn1.own
 have hzhn1 := hn1.size
 have hqhn1 := hn1.eqb
 refine VL_storeC (b := b1) (h' := (parseH l.cf bs)) (ps := (parseP l.cf bs)) (by kernel_rfl) (by kernel_rfl) ho2 (parseP_len l.cf bs) (List.length_replicate ..) ?_
 intro w6 hw2
 replace hS := Step.transNew hS hw2.step (fun i9 hi9 hF9 => by have hF8 : i9 = b1 := hF9; omega)
 replace hwl := Nat.le_trans hwl (hw2.step).size
 replace ho1 := ho1.step hw2.step (show ¬ p = b1 by omega)
 replace hlk2 := hlk2.step hw2.step (show ¬ (g.lg i) = b1 by omega)
 have ho3 : Own w6 b1 (cellA (parseH l.cf bs) (parseP l.cf bs)) 45 := hw2.own
 have hzhw2 := hw2.same
 refine Ve (Vn (Vs ?_))
 have hq := h.parsed (b := bs) hl hS ⟨ht0, ht.2⟩ (Own.cast ho1 TPl7ab) hlk2
 have hS0 := hS
 obtain ⟨wq, hwq⟩ : ∃ x, x = w6 := ⟨_, rfl⟩
 have hS3 : Step No wq w6 := by rw [hwq]; exact Step.refl _ _
 rw [← hwq] at hS0 hq
 refine Vr (Vla 1 (t := 40) (a := ⟨b1, 0, none⟩) (v := .agg #[I6 ((parseH l.cf bs).g), I6 ((parseH l.cf bs).v), I6 ((parseH l.cf bs).c), I6 ((parseH l.cf bs).p), I6 ((parseH l.cf bs).l)]) (Loads.cellH ho3 (by kernel_rfl)) ?_)
 refine Vc 2 Tryz.call67 (kind_any (parseH l.cf bs) _) ?_
 rintro _ w7 ⟨rfl, hc4⟩
 replace ho3 := ho3.no hc4
 replace hS3 := Step.trans hS3 hc4
 replace hwl := Nat.le_trans hwl (hc4).size
 refine Ve (Vn (Vs (VC_block (Vrp (Viz (b := (parseE l.cf bs) != 0) (by rw [he]; rfl) (Vs (Vr (Vla 0 (t := 45) (a := ⟨b1, 0, none⟩) (v := .agg (cellA (parseH l.cf bs) (parseP l.cf bs))) (Loads.cellC ho3 (parseP_len l.cf bs) (by kernel_rfl)) ?_))))))))
 refine Vc 1 Tryz.call26 (empty_any (parseH l.cf bs) (parseP l.cf bs) _ (parseP_len l.cf bs)) ?_
 rintro _ w8 ⟨rfl, hc5⟩
 replace ho3 := ho3.no hc5
 replace hS3 := Step.trans hS3 hc5
 replace hwl := Nat.le_trans hwl (hc5).size
 refine Ve (Vn (Viz (b := emptyH (parseH l.cf bs)) hx (Vs (Vr (Vp 3 (Vand 77 82 8 [0, 2, 12, 14] ((kindH (parseH l.cf bs)) == 1) (((parseH l.cf bs).v) == 0) (fun hg1 J1 => ?_) ?_))))))
 ·refine Vla 5 (t := 3) (a := ⟨b1, 1, none⟩) (v := I6 ((parseH l.cf bs).v)) (Loads.cellF (i := 1) ho3 (by kernel_rfl) (by decide) rfl) ?_
  exact Vp 8 (Vk [82, 0, 2, 12, 14] J1)
 refine Vp 9 (Vand 83 88 14 [0, 2, 12, 14] (((kindH (parseH l.cf bs)) == 1) && (((parseH l.cf bs).v) == 0)) (((parseH l.cf bs).c) == 5) (fun hg2 J2 => ?_) ?_)
 ·refine Vla 11 (t := 3) (a := ⟨b1, 2, none⟩) (v := I6 ((parseH l.cf bs).c)) (Loads.cellF (i := 2) ho3 (by kernel_rfl) (by decide) rfl) ?_
  exact Vp 14 (Vk [88, 0, 2, 12, 14] J2)
 refine Ve (Vn (Viz (b := (((kindH (parseH l.cf bs)) == 1) && (((parseH l.cf bs).v) == 0)) && (((parseH l.cf bs).c) == 5)) hsg (VC_skip (VQ_block_normal (Vn (Vs (Vr (Vla 4 (t := 3) (a := ⟨b1, 1, none⟩) (v := I6 ((parseH l.cf bs).v)) (Loads.cellF (i := 1) ho3 (by kernel_rfl) (by decide) rfl) (Vla 7 (t := 3) (a := ⟨b1, 2, none⟩) (v := I6 ((parseH l.cf bs).c)) (Loads.cellF (i := 2) ho3 (by kernel_rfl) (by decide) rfl) (Vp 9 ?_))))))))))
 refine Vc 9 Tryz.call57 (find_yes p lo X XB g (recvS st i t bs) n _ ((i : Nat) : Int) (parseH l.cf bs).v (parseH l.cf bs).c y hf (hq.no hS3)) ?_
 rintro _ w9 ⟨z, hz, hzy, rfl, hc6⟩
 replace ho3 := ho3.no hc6
 replace hS3 := Step.trans hS3 hc6
 replace hwl := Nat.le_trans hwl (hc6).size
 refine Ve (Vn (Vs (Vrp (Vf (VC_skip (Vn (Vs (Vrp (VC_block (Vrp (Viz (b := (kindH (parseH l.cf bs)) == 6) (by rw [hk]; rfl) (Vs (Vs (Vr (Ve ?_)))))))))))))))
 refine Vn (Viz (b := (kindH (parseH l.cf bs)) == 1) (by rw [hk]; rfl) (Vrp (Viz (b := (kindH (parseH l.cf bs)) == 7) (by rw [hk]; rfl) (Vr (Ve (Vn (Vit (b := (kindH (parseH l.cf bs)) == 8) (by rw [hk]; rfl) (Vs (Vr (Vla 2 (t := 45) (a := ⟨b1, 0, none⟩) (v := .agg (cellA (parseH l.cf bs) (parseP l.cf bs))) (Loads.cellC ho3 (parseP_len l.cf bs) (by kernel_rfl)) (Vp 5 ?_)))))))))))
 have hzl20 := ho3.lt
 have hzo7 := hwl
 refine Vc 5 Tryz.call70 (pass_any p lo X XB g (recvS st i t bs) n _ ((i : Nat) : Int) (parseH l.cf bs).v (parseH l.cf bs).c z hz (parseH l.cf bs) (parseP l.cf bs) (parseP_len _ _) (parseH_ok _ _) (by omega) ((kindH (parseH l.cf bs)) == 1) (hq.no hS3)) ?_
 rintro v7 w10 ⟨hO, hN⟩
 refine Ve (Vn (VC_ret (VQ_block_ret (VQ_then_ret (Vr2 v7 (I6 0) ?_)))))
 obtain ⟨X9, XB9, hP9, hX9, hB9, hS9⟩ := hN
 exact ⟨_, rfl, by subst hzy; exact hO.low (by omega), X9, XB9, by subst hzy; exact hP9, fun k9 hk9 => (hX9 k9 hk9).imp id (fun h9 => by omega), fun k9 hk9 => (hB9 k9 hk9).imp id (fun h9 => by omega), Step.trans (Step.mono hS0 (parF_X h hi)) (Step.trans (Step.mono hS3 (fun _ h9 => h9.elim)) hS9)⟩

end Go.Proofs.YtcablikikkmfjaaGreat
end

section
/- Layer 22: what a plane is asked; a nil plane. -/
set_option linter.unusedVariables false
set_option linter.unusedSimpArgs false
set_option maxRecDepth 100000
set_option maxHeartbeats 4000000
namespace Go.Proofs.YtcablikikkmfjaaGreat
open Go.Vc Go.RowKit

theorem now_any (p lo : Nat) (X XB : Nat → Prop) (g : PlG) (st : PS) (n : Nat) (w : World) (h : PnX w p X XB lo g st n)  :
  CV Tryz.prog 28 #[Pt p 0] w (fun x w1 => x = I6 st.now ∧ Step No w w1) := by
 have hS : Step No w w := Step.refl _ _
 have hp := h.own
 refine VCe Tryz.func28 (Vrp (Vs (Vrp (Vf (VC_skip (Vn (Vs (Vr (Vl 3 hp (Ve (Vn (VC_ret (Vr1 (I6 st.now) ?_)))))))))))))
 exact ⟨rfl, hS⟩

theorem counts_any (p lo : Nat) (X XB : Nat → Prop) (g : PlG) (st : PS) (n : Nat) (w : World) (h : PnX w p X XB lo g st n)  :
  CV Tryz.prog 29 #[.pointer (some ⟨p, 0, none⟩)] w (fun x w1 => x = .agg #[.int .i64 (st.cn 0), .int .i64 (st.cn 1), .int .i64 (st.cn 2), .int .i64 (st.cn 3), .int .i64 (st.cn 4), .int .i64 (st.cn 5), .int .i64 (st.cn 6), .int .i64 (st.cn 7), .int .i64 (st.cn 8)] ∧ Step No w w1) := by
 have hS : Step No w w := Step.refl _ _
 have hp := h.own
 refine CV_enter Tryz.f29 _ 10 [(0, .pointer (some ⟨p, 0, none⟩))] Tryz.func29 rfl rfl (by kernel_rfl) rfl ?_
 refine VC_seq ?_
 refine VC_region ?_
 refine VL_box (d := 2) (t := 77) (c := iA .i64 (List.replicate 9 0)) (by kernel_rfl) (by kernel_rfl) ?_
 intro b1 w1 hn1
 replace hS := Step.trans hS (hn1.step No)
 replace hp := hp.no (hn1.step No)
 have ho1 := hn1.own
 have hzhn1 := hn1.size
 have hqhn1 := hn1.eqb
 refine VL_end (by kernel_rfl) ?_
 refine VQ_next ?_
 refine VC_seq ?_
 refine VC_seq ?_
 refine VC_region ?_
 refine VL_pure 2 [0, 2, 4] [(0, .pointer (some ⟨p, 0, none⟩)), (2, .pointer (some ⟨b1, 0, none⟩)), (4, .bool false)] (by kernel_rfl) rfl ?_
 refine VL_end (by kernel_rfl) ?_
 refine VQ_next ?_
 refine VC_false (by kernel_rfl) ?_
 refine VC_skip ?_
 refine VQ_next ?_
 refine VC_seq ?_
 refine VC_region ?_
 refine VL_pure 3 [2, 8] [(2, .pointer (some ⟨b1, 0, none⟩)), (8, .pointer (some ⟨p, 11, none⟩))] (by kernel_rfl) rfl ?_
 refine VL_load (d := 9) (t := 77) (a := ⟨p, 11, none⟩) (v := .agg #[.int .i64 (st.cn 0), .int .i64 (st.cn 1), .int .i64 (st.cn 2), .int .i64 (st.cn 3), .int .i64 (st.cn 4), .int .i64 (st.cn 5), .int .i64 (st.cn 6), .int .i64 (st.cn 7), .int .i64 (st.cn 8)]) (by kernel_rfl) (by kernel_rfl) (Loads.ownL hp (n := 9) (by kernel_rfl) (by kernel_rfl) (by kernel_rfl)) ?_
 refine VL_storeA (b := b1) (sz := 9) (k := .i64) (bs := [(st.cn 0), (st.cn 1), (st.cn 2), (st.cn 3), (st.cn 4), (st.cn 5), (st.cn 6), (st.cn 7), (st.cn 8)]) (by kernel_rfl) (by kernel_rfl) (by (try simp only [List.length_set, List.length_append, List.length_map, List.length_replicate, List.length_cons, List.length_nil, List.length_take, List.length_drop, List.length_range]) <;> omega) ho1 (iA_size.trans (by (try simp only [List.length_set, List.length_append, List.length_map, List.length_replicate, List.length_cons, List.length_nil, List.length_take, List.length_drop, List.length_range]) <;> omega)) ?_
 intro w2 hw1
 replace hS := Step.transNew hS hw1.step (fun _ _ _ => by omega)
 have ho2 := hw1.own
 refine VL_end (by kernel_rfl) ?_
 refine VQ_next ?_
 refine VC_ret ?_
 refine VQ_retC1 (T := 77) (.agg (iA .i64 ([(st.cn 0), (st.cn 1), (st.cn 2), (st.cn 3), (st.cn 4), (st.cn 5), (st.cn 6), (st.cn 7), (st.cn 8)]))) (.inr rfl) rfl rfl (Loads.arr (N := 9) ho2 (by kernel_rfl) (by (try simp only [List.length_set, List.length_append, List.length_map, List.length_replicate, List.length_cons, List.length_nil, List.length_take, List.length_drop, List.length_range]) <;> omega)) ?_
 exact ⟨rfl, hS⟩

section
variable {w : World} {p lo n : Nat} {X XB : Nat → Prop} {st : PS}
theorem pnow (h : PlP w p X XB lo st n) : CV Tryz.prog 28 #[.pointer (some ⟨p, 0, none⟩)] w fun x w1 => x = .int .i64 st.now ∧ Step No w w1 := by obtain ⟨g, h⟩ := h; exact now_any p lo X XB g st n w h
theorem pcounts (h : PlP w p X XB lo st n) : CV Tryz.prog 29 #[.pointer (some ⟨p, 0, none⟩)] w fun x w1 => x = .agg #[.int .i64 (st.cn 0), .int .i64 (st.cn 1), .int .i64 (st.cn 2), .int .i64 (st.cn 3), .int .i64 (st.cn 4), .int .i64 (st.cn 5), .int .i64 (st.cn 6), .int .i64 (st.cn 7), .int .i64 (st.cn 8)] ∧ Step No w w1 := by obtain ⟨g, h⟩ := h; exact counts_any p lo X XB g st n w h
end
theorem linked_nil (q : Int) (w : World) :
  CV Tryz.prog 55 #[.pointer none, I6 q] w (fun x w1 => x = Bo false ∧ Step No w w1) := by
 have hS : Step No w w := Step.refl _ _
 refine VCe Tryz.func55 (Vrp (Vrp (VC_ret (Vr1 (Bo false) ?_))))
 exact ⟨rfl, hS⟩

theorem comes_nil (t : Int) (w : World) :
  CV Tryz.prog 66 #[.pointer none, I6 t] w (fun x w1 => x = I6 1 ∧ Step No w w1) := by
 have hS : Step No w w := Step.refl _ _
 refine VCe Tryz.func66 (Vrp (Vs (VC_block (Vrp (Vt (Vrp (VC_ret (VQ_block_ret (VQ_then_ret (Vr1 (I6 1) ?_))))))))))
 exact ⟨rfl, hS⟩

theorem pfind_nil (q v c : Int) (w : World) :
  CV Tryz.prog 57 #[.pointer none, .agg #[I6 q, I6 v, I6 c]] w (fun x w1 => x = .tuple #[.pointer none, Bo false] ∧ Step No w w1) := by
 have hS : Step No w w := Step.refl _ _
 refine VCe Tryz.func57 (Vs (Vr ?_))
 refine Vx 0 34 #[I6 q, I6 v, I6 c] ?_
 intro b1 w1 hn1
 replace hS := Step.trans hS (hn1.step No)
 refine Ve (Vn (Vs (Vrp (Vt (Vrp (VC_ret (VQ_then_ret (Vr2 (.pointer none) (Bo false) ?_))))))))
 exact ⟨rfl, hS⟩

theorem now_nil (w : World) :
  CV Tryz.prog 28 #[.pointer none] w (fun x w1 => x = I6 0 ∧ Step No w w1) := by
 have hS : Step No w w := Step.refl _ _
 refine VCe Tryz.func28 (Vrp (Vs (Vrp (Vt (Vrp (VC_ret (VQ_then_ret (Vr1 (I6 0) ?_))))))))
 exact ⟨rfl, hS⟩

theorem used_nil (q : Int) (w : World) :
  CV Tryz.prog 36 #[.pointer none, I6 q] w (fun x w1 => x = I6 0 ∧ Step No w w1) := by
 have hS : Step No w w := Step.refl _ _
 refine VCe Tryz.func36 (Vrp (Vs (Vrp (Vt (Vrp (VC_ret (VQ_then_ret (Vr1 (I6 0) ?_))))))))
 exact ⟨rfl, hS⟩

theorem phase_nil (q r : Int) (w : World) :
  CV Tryz.prog 32 #[.pointer none, I6 q, I6 r] w (fun x w1 => x = I6 0 ∧ Step No w w1) := by
 have hS : Step No w w := Step.refl _ _
 refine VCe Tryz.func32 (Vrp (Vs (Vrp (Vt (Vrp (VC_ret (VQ_then_ret (Vr1 (I6 0) ?_))))))))
 exact ⟨rfl, hS⟩

theorem counts_nil (w : World) :
  CV Tryz.prog 29 #[.pointer none] w (fun x w1 => x = .agg #[.int .i64 0, .int .i64 0, .int .i64 0, .int .i64 0, .int .i64 0, .int .i64 0, .int .i64 0, .int .i64 0, .int .i64 0] ∧ Step No w w1) := by
 have hS : Step No w w := Step.refl _ _
 refine CV_enter Tryz.f29 _ 10 [(0, .pointer none)] Tryz.func29 rfl rfl (by kernel_rfl) rfl ?_
 refine VC_seq ?_
 refine VC_region ?_
 refine VL_box (d := 2) (t := 77) (c := iA .i64 (List.replicate 9 0)) (by kernel_rfl) (by kernel_rfl) ?_
 intro b1 w1 hn1
 replace hS := Step.trans hS (hn1.step No)
 have ho1 := hn1.own
 have hzhn1 := hn1.size
 have hqhn1 := hn1.eqb
 refine VL_end (by kernel_rfl) ?_
 refine VQ_next ?_
 refine VC_seq ?_
 refine VC_seq ?_
 refine VC_region ?_
 refine VL_pure 2 [0, 2, 4] [(0, .pointer none), (2, .pointer (some ⟨b1, 0, none⟩)), (4, .bool true)] (by kernel_rfl) rfl ?_
 refine VL_end (by kernel_rfl) ?_
 refine VQ_next ?_
 refine VC_true (by kernel_rfl) ?_
 refine VC_seq ?_
 refine VC_region ?_
 refine VL_pure 1 [2, 5] [(2, .pointer (some ⟨b1, 0, none⟩)), (5, .agg #[.int .i64 0, .int .i64 0, .int .i64 0, .int .i64 0, .int .i64 0, .int .i64 0, .int .i64 0, .int .i64 0, .int .i64 0])] (by kernel_rfl) rfl ?_
 refine VL_storeA (b := b1) (sz := 9) (k := .i64) (bs := List.replicate 9 0) (by kernel_rfl) (by kernel_rfl) (by (try simp only [List.length_set, List.length_append, List.length_map, List.length_replicate, List.length_cons, List.length_nil, List.length_take, List.length_drop, List.length_range]) <;> omega) ho1 (iA_size.trans (by (try simp only [List.length_set, List.length_append, List.length_map, List.length_replicate, List.length_cons, List.length_nil, List.length_take, List.length_drop, List.length_range]) <;> omega)) ?_
 intro w2 hw1
 replace hS := Step.transNew hS hw1.step (fun _ _ _ => by omega)
 have ho2 := hw1.own
 refine VL_end (by kernel_rfl) ?_
 refine VQ_next ?_
 refine VC_ret ?_
 refine VQ_then_ret ?_
 refine VQ_retC1 (T := 77) (.agg (iA .i64 (List.replicate 9 0))) (.inr rfl) rfl rfl (Loads.arr (N := 9) ho2 (by kernel_rfl) (by (try simp only [List.length_set, List.length_append, List.length_map, List.length_replicate, List.length_cons, List.length_nil, List.length_take, List.length_drop, List.length_range]) <;> omega)) ?_
 exact ⟨rfl, hS⟩

theorem plink_nil (q : Int) (b : Bool) (w : World) :
  CV Tryz.prog 44 #[.pointer none, I6 q, Bo b] w (fun x w1 => x = .tuple #[] ∧ Step No w w1) := by
 have hS : Step No w w := Step.refl _ _
 refine VCe Tryz.func44 (Vs (Vs (Vr (Vp 2 ?_))))
 refine Vc 2 (args := #[.pointer none, I6 q]) Tryz.call55 (linked_nil _ _) ?_
 rintro _ w1 ⟨rfl, hc1⟩
 replace hS := Step.trans hS hc1
 refine Ve (Vn (Vt (VC_ret (VQ_then_ret (Vr0 ?_)))))
 exact ⟨rfl, hS⟩

theorem close_nil (q v c : Int) (w : World) :
  CV Tryz.prog 45 #[.pointer none, .agg #[I6 q, I6 v, I6 c]] w (fun x w1 => x = Bo false ∧ Step No w w1) := by
 have hS : Step No w w := Step.refl _ _
 refine VCe Tryz.func45 (Vs (Vr ?_))
 refine Vx 0 34 #[I6 q, I6 v, I6 c] ?_
 intro b1 w1 hn1
 replace hS := Step.trans hS (hn1.step No)
 have ho1 := hn1.own
 refine Ve (Vn (Vs (Vr (Vl 1 ho1 ?_))))
 refine Vc 2 (args := #[.pointer none, .agg #[I6 q, I6 v, I6 c]]) Tryz.call57 (pfind_nil _ _ _ _) ?_
 rintro _ w2 ⟨rfl, hc1⟩
 replace hS := Step.trans hS hc1
 refine Ve (Vn (Vs (Vrp (Vt (Vrp (VC_ret (VQ_then_ret (Vr1 (Bo false) ?_))))))))
 exact ⟨rfl, hS⟩

theorem open_nil (w : World) :
  CV Tryz.prog 17 #[.pointer none, .agg #[I6 0, I6 0, I6 0], .agg #[I6 0, I6 0, I6 0], .agg #[I6 0, I6 0, I6 0, I6 0, I6 0, I6 0]] w (fun x w1 => x = I6 3 ∧ Step No w w1) := by
 have hS : Step No w w := Step.refl _ _
 refine VCe Tryz.func17 (Vs (Vr ?_))
 refine Vx 0 34 #[I6 0, I6 0, I6 0] ?_
 intro b1 w1 hn1
 replace hS := Step.trans hS (hn1.step No)
 have ho1 := hn1.own
 refine Vx 1 34 #[I6 0, I6 0, I6 0] ?_
 intro b2 w2 hn2
 replace hS := Step.trans hS (hn2.step No)
 replace ho1 := ho1.no (hn2.step No)
 refine Vx 2 23 #[I6 0, I6 0, I6 0, I6 0, I6 0, I6 0] ?_
 intro b3 w3 hn3
 replace hS := Step.trans hS (hn3.step No)
 replace ho1 := ho1.no (hn3.step No)
 refine Ve (Vn (Vs (Vs (Vr (Vl 2 ho1 ?_)))))
 refine Vc 3 (args := #[.pointer none, I6 0]) Tryz.call55 (linked_nil _ _) ?_
 rintro _ w4 ⟨rfl, hc1⟩
 replace hS := Step.trans hS hc1
 refine Ve (Vn (Vt (Vrp (VC_ret (VQ_then_ret (Vr1 (I6 3) ?_))))))
 exact ⟨rfl, hS⟩

theorem contract_nil (q v c : Int) (w : World) :
  CV Tryz.prog 37 #[.pointer none, .agg #[.int .i64 q, .int .i64 v, .int .i64 c]] w (fun x w1 => x = .tuple #[.agg #[.int .i64 0, .int .i64 0, .int .i64 0, .int .i64 0, .int .i64 0, .int .i64 0], .bool false] ∧ Step No w w1) := by
 have hS : Step No w w := Step.refl _ _
 refine CV_enter Tryz.f37 _ 28 [(0, .pointer none), (1, .agg #[.int .i64 q, .int .i64 v, .int .i64 c])] Tryz.func37 rfl rfl (by kernel_rfl) rfl ?_
 refine VC_seq ?_
 refine VC_region ?_
 refine VL_box (d := 3) (t := 34) (c := #[.int .i64 q, .int .i64 v, .int .i64 c]) (by kernel_rfl) (by kernel_rfl) ?_
 intro b1 w1 hn1
 replace hS := Step.trans hS (hn1.step No)
 have ho1 := hn1.own
 have hzhn1 := hn1.size
 have hqhn1 := hn1.eqb
 refine VL_box (d := 4) (t := 23) (c := #[.int .i64 0, .int .i64 0, .int .i64 0, .int .i64 0, .int .i64 0, .int .i64 0]) (by kernel_rfl) (by kernel_rfl) ?_
 intro b2 w2 hn2
 replace hS := Step.trans hS (hn2.step No)
 replace ho1 := ho1.no (hn2.step No)
 have ho2 := hn2.own
 have hzhn2 := hn2.size
 have hqhn2 := hn2.eqb
 refine VL_pure 3 [0, 3, 4] [(0, .pointer none), (3, .pointer (some ⟨b1, 0, none⟩)), (4, .pointer (some ⟨b2, 0, none⟩))] (by kernel_rfl) rfl ?_
 refine VL_end (by kernel_rfl) ?_
 refine VQ_next ?_
 refine VC_seq ?_
 refine VC_region ?_
 refine VL_pure 1 [0, 3, 4, 9] [(0, .pointer none), (3, .pointer (some ⟨b1, 0, none⟩)), (4, .pointer (some ⟨b2, 0, none⟩)), (9, .pointer none)] (by kernel_rfl) rfl ?_
 refine VL_load (d := 10) (t := 34) (a := ⟨b1, 0, none⟩) (v := .agg #[.int .i64 q, .int .i64 v, .int .i64 c]) (by kernel_rfl) (by kernel_rfl) (Loads.ownL ho1 (n := 3) (by kernel_rfl) (by kernel_rfl) (by kernel_rfl)) ?_
 refine VL_call (d := 11) (f := 57) (args := #[.pointer none, .agg #[.int .i64 q, .int .i64 v, .int .i64 c]]) (by kernel_rfl) (by kernel_rfl) (by kernel_rfl) Tryz.call57 (pfind_nil _ _ _ _) ?_
 rintro _ w3 ⟨rfl, hc1⟩
 replace hS := Step.trans hS hc1
 replace ho2 := ho2.no hc1
 refine VL_pure 8 [0, 4, 6, 7] [(0, .pointer none), (4, .pointer (some ⟨b2, 0, none⟩)), (6, .pointer none), (7, .bool false)] (by kernel_rfl) rfl ?_
 refine VL_end (by kernel_rfl) ?_
 refine VQ_next ?_
 refine VC_seq ?_
 refine VC_seq ?_
 refine VC_region ?_
 refine VL_pure 2 [0, 4, 6, 15] [(0, .pointer none), (4, .pointer (some ⟨b2, 0, none⟩)), (6, .pointer none), (15, .bool true)] (by kernel_rfl) rfl ?_
 refine VL_end (by kernel_rfl) ?_
 refine VQ_next ?_
 refine VC_true (by kernel_rfl) ?_
 refine VC_seq ?_
 refine VC_region ?_
 refine VL_pure 1 [4, 16] [(4, .pointer (some ⟨b2, 0, none⟩)), (16, .agg #[.int .i64 0, .int .i64 0, .int .i64 0, .int .i64 0, .int .i64 0, .int .i64 0])] (by kernel_rfl) rfl ?_
 refine VL_store (b := b2) (o := 0) (vs := [.int .i64 0, .int .i64 0, .int .i64 0, .int .i64 0, .int .i64 0, .int .i64 0]) (by kernel_rfl) (by kernel_rfl) ho2 (Nat.le_of_ble_eq_true (by kernel_rfl)) ?_
 intro w4 hw1
 replace hS := Step.transNew hS hw1.step (fun _ _ _ => by omega)
 have ho3 : Own w4 b2 #[.int .i64 0, .int .i64 0, .int .i64 0, .int .i64 0, .int .i64 0, .int .i64 0] 23 := Own.cast hw1.own (by kernel_rfl)
 refine VL_pure 3 [4, 5] [(4, .pointer (some ⟨b2, 0, none⟩)), (5, .bool false)] (by kernel_rfl) rfl ?_
 refine VL_end (by kernel_rfl) ?_
 refine VQ_next ?_
 refine VC_ret ?_
 refine VQ_then_ret ?_
 refine VQ_retC1T1 (T := 23) (.agg #[.int .i64 0, .int .i64 0, .int .i64 0, .int .i64 0, .int .i64 0, .int .i64 0]) (.bool false) (.inr rfl) rfl rfl rfl (Loads.ownL ho3 (n := 6) (by kernel_rfl) (by kernel_rfl) (by kernel_rfl)) ?_
 exact ⟨rfl, hS⟩

theorem arrive_nil (t q : Int) (A : Option Addr) (m c : Nat) (w : World) :
  CV Tryz.prog 20 #[.pointer none, I6 t, I6 q, .slice A m c] w (fun x w1 => x = .tuple #[.slice none 0 0, I6 1] ∧ Step No w w1) := by
 have hS : Step No w w := Step.refl _ _
 refine VCe Tryz.func20 (Vrp (Vs (Vs (Vr (Vp 2 ?_)))))
 refine Vc 2 (args := #[.pointer none, I6 t]) Tryz.call66 (comes_nil _ _) ?_
 rintro _ w1 ⟨rfl, hc1⟩
 replace hS := Step.trans hS hc1
 refine Ve (Vn (Vrp (Vt (Vrp (VC_ret (VQ_then_ret (Vr2 (.slice none 0 0) (I6 1) ?_)))))))
 exact ⟨rfl, hS⟩

theorem tick_nil (t : Int) (w : World) :
  CV Tryz.prog 35 #[.pointer none, .int .i64 t] w (fun x w1 => x = .tuple #[.slice none 0 0, .int .i64 1] ∧ Step No w w1) := by
 have hS : Step No w w := Step.refl _ _
 refine CV_enterM Tryz.f35 _ 115 [(0, .pointer none), (1, .int .i64 t)] Tryz.func35 rfl rfl (by kernel_rfl) rfl ?_
 refine VC_seq ?_
 refine VC_region ?_
 refine VL_box (d := 2) (t := 28) (c := #[.pointer none]) (by kernel_rfl) (by kernel_rfl) ?_
 intro b1 w1 hn1
 replace hS := Step.trans hS (hn1.step No)
 have ho1 := hn1.own
 refine VL_box (d := 3) (t := 3) (c := #[.int .i64 t]) (by kernel_rfl) (by kernel_rfl) ?_
 intro b2 w2 hn2
 replace hS := Step.trans hS (hn2.step No)
 replace ho1 := ho1.no (hn2.step No)
 have ho2 := hn2.own
 refine VL_pure 4 [2, 3, 4, 5] [(2, .pointer (some ⟨b1, 0, none⟩)), (3, .pointer (some ⟨b2, 0, none⟩)), (4, .slice none 0 0), (5, .int .i64 0)] (by kernel_rfl) rfl ?_
 refine VL_end (by kernel_rfl) ?_
 refine VQ_next ?_
 refine VC_scope ?_
 refine VC_seq ?_
 refine VC_seq ?_
 refine VC_region ?_
 refine VL_load (d := 18) (t := 28) (a := ⟨b1, 0, none⟩) (v := .pointer none) (by kernel_rfl) (by kernel_rfl) (Loads.own1 ho1 (by kernel_rfl) (by rfl)) ?_
 refine VL_load (d := 19) (t := 3) (a := ⟨b2, 0, none⟩) (v := .int .i64 t) (by kernel_rfl) (by kernel_rfl) (Loads.own1 ho2 (by kernel_rfl) (by rfl)) ?_
 refine VL_call (d := 20) (f := 66) (args := #[.pointer none, .int .i64 t]) (by kernel_rfl) (by kernel_rfl) (by kernel_rfl) Tryz.call66 (comes_nil _ _) ?_
 rintro _ w3 ⟨rfl, hc1⟩
 replace hS := Step.trans hS hc1
 refine VL_pure 4 [2, 3, 4, 5, 6] [(2, .pointer (some ⟨b1, 0, none⟩)), (3, .pointer (some ⟨b2, 0, none⟩)), (4, .slice none 0 0), (5, .int .i64 0), (6, .int .i64 1)] (by kernel_rfl) rfl ?_
 refine VL_end (by kernel_rfl) ?_
 refine VQ_next ?_
 refine VC_seq ?_
 refine VC_region ?_
 refine VL_pure 2 [2, 3, 4, 5, 6, 22] [(2, .pointer (some ⟨b1, 0, none⟩)), (3, .pointer (some ⟨b2, 0, none⟩)), (4, .slice none 0 0), (5, .int .i64 0), (6, .int .i64 1), (22, .bool true)] (by kernel_rfl) rfl ?_
 refine VL_end (by kernel_rfl) ?_
 refine VQ_next ?_
 refine VC_true (by kernel_rfl) ?_
 refine VC_seq ?_
 refine VC_region ?_
 refine VL_pure 3 [4, 5] [(4, .slice none 0 0), (5, .int .i64 1)] (by kernel_rfl) rfl ?_
 refine VL_end (by kernel_rfl) ?_
 refine VQ_next ?_
 refine VC_ret ?_
 refine VQ_then_ret ?_
 refine VQ_scope_ret ?_
 refine VQ_retM2 (.slice none 0 0) (.int .i64 1) [] (.inr rfl) rfl rfl rfl trivial ?_
 intro w4 hq1
 replace hq1 : Step No w3 w4 := Step.mono hq1 (fun i hi => by simp at hi)
 replace hS := Step.trans hS hq1
 exact ⟨rfl, hS⟩

theorem hangup_nil (t q r : Int) (w : World) :
  CV Tryz.prog 34 #[.pointer none, I6 t, I6 q, I6 r] w (fun x w1 => x = .tuple #[.slice none 0 0, I6 1] ∧ Step No w w1) := by
 have hS : Step No w w := Step.refl _ _
 refine VCe Tryz.func34 (Vrp (Vs (Vs (Vr (Vp 2 ?_)))))
 refine Vc 2 (args := #[.pointer none, I6 t]) Tryz.call66 (comes_nil _ _) ?_
 rintro _ w1 ⟨rfl, hc1⟩
 replace hS := Step.trans hS hc1
 refine Ve (Vn (Vrp (Vt (Vrp (VC_ret (VQ_then_ret (Vr2 (.slice none 0 0) (I6 1) ?_)))))))
 exact ⟨rfl, hS⟩

theorem ways_nil (w : World) :
  CV Tryz.prog 30 #[.pointer none] w (fun x w1 => ∃ B, x = .func (.func 74) #[] #[Pt B 0] ∧ ¬ B < w.heap.size ∧ Own w1 B #[.pointer none] 28 ∧ Step No w w1) := by
 have hS : Step No w w := Step.refl _ _
 refine VCe Tryz.func30 (Vs (Vr ?_))
 refine Vx 0 28 #[.pointer none] ?_
 intro b1 w1 hn1
 replace hS := Step.trans hS (hn1.step No)
 have ho1 := hn1.own
 have hzhn1 := hn1.size
 have hqhn1 := hn1.eqb
 refine Ve (Vn (Vrp (VC_ret (Vr1 (.func (.func 74) #[] #[Pt b1 0]) ?_))))
 exact ⟨_, rfl, by omega, ho1, hS⟩

end Go.Proofs.YtcablikikkmfjaaGreat
end

section
/- The calculus: a drawn region whose operations lay new blocks, and what holds of all that were laid together. -/
set_option linter.unusedVariables false
set_option linter.unusedSimpArgs false
namespace Go.Vc
open Go.RowKit
section
variable {r : Option Nat} {n : Nat} {ds : List Deferred} {P : Program} {ops : Array Oper} {Q : Exit → Act → World → Prop} {l : List (Nat × Value)} {w : World} {i : Nat}
def usOf (ops : Array Oper) (ρ : Nat → Value) (k : Nat) : Value := match dstOf ops k with | some d => ρ d | none => undef
/-- D: what is done; us: what it came to. -/
theorem VC_glob {id : Nat} (tbl : List (List Nat)) (m : Nat) (vs : List Value) (ks js exs : List Nat) (I : (Nat → Bool) → (Nat → Value) → World → Prop) (hm : P.follows .mixedOrders = true) (hchk : drawChk n ops tbl m = true) (hcov : allB m (fun k => nmem k ks || nmem k js || nmem k exs) = true)
    (hI : ∀ D us x y, I D us x → Step No x y → I D us y) (hIc : ∀ D D' us us' x, (∀ k, nmem k exs = true → D' k = D k ∧ (D k = true → us' k = us k)) → I D us x → I D' us' x) (hI0 : ∀ D us, (∀ k, nmem k exs = true → D k = false) → I D us w)
    (hpure : (ks.map fun k => pureAt P n ops (lkx ops tbl m l vs exs k) k) = ks.map fun k => some (vs.getD k undef)) (hks : ks.all (fun k => !nmem k exs) = true) (hjs : js.all (fun k => !nmem k exs) = true) (hexs : exs.all (fun k => Nat.blt k m) = true)
    (hj : ∀ w1, Step No w w1 → AncAll (fun k => Det1 r n ds P ops Q w1 (lkx ops tbl m l vs exs k) k (vs.getD k undef)) js)
    (hx : ∀ D us w1, Step No w w1 → I D us w1 → AncAll (fun k => D k = false → V1 r n ds P ops Q k (lkx ops tbl m l vs exs k) w1 fun l' w'' => ∃ v d, dstOf ops k = some d ∧ look l' d = some v ∧ Step No w1 w'' ∧ I (fun j => if j = k then true else D j) (fun j => if j = k then v else us j) w'') exs)
    (tail : ∀ w1 us, Step No w w1 → I (fun _ => true) us w1 → VL r n ds P ops Q m (lmx ops m l vs exs us) w1) : VC r n ds P Q (.region id ops true) l w := by
  intro a ha
  refine wpIn_region_any hm ?_
  have hc0 := drawChk_spec hchk
  have hc := hc0.lenient
  have hle := hc.le
  have hrep : ∀ j, (Array.replicate ops.size false).getD j true = decide (ops.size ≤ j) := by
    intro j
    rw [Array.getD_eq_getD_getElem?, Array.getElem?_replicate]
    by_cases h : j < ops.size
    · rw [if_pos h]; simp; omega
    · rw [if_neg h]; simp; omega
  have hexm : ∀ k, nmem k exs = true → k < m := fun k hk => blt_spec ((List.all_eq_true.1 hexs) k (nmem_iff.1 hk))
  refine wpAny_inv hc (fun D ρ w1 => Step No w w1 ∧ I D (usOf ops ρ) w1 ∧ ∀ j, j < m → D j = true → nmem j exs = false → ∀ d, dstOf ops j = some d → ρ d = vs.getD j undef)
    ?_ ?_ ops.size _ a _ (by simp) ?_ ?_ ha.size ha.defers ?_ (fun t v hv _ => ha.get t v hv) ?_ ?_
  · rintro k hk D ρ w1 ⟨hs1, hI1, hset⟩ hDk hanc hdown
    obtain ⟨d, hd, hdn, hcl⟩ := hc0.dst k hk
    have ancLt : ∀ j ∈ tb tbl k, j < m := fun j hj => by have := hc.lt k (by omega) j hj; omega
    have hkeep : ∀ (v : Value) j, j < m → D j = true → ∀ e, dstOf ops j = some e → upd ρ d v e = ρ e := by
      intro v j hj hDj e he
      have hjk : j ≠ k := by rintro rfl; rw [hDk] at hDj; cases hDj
      have hnk : k ∉ tb tbl j := fun hmem => by have := hdown j (by omega) hDj k hmem; rw [hDk] at this; cases this
      have := hcl j hj hjk hnk
      unfold upd
      have hne : d ≠ e := by
        rintro rfl
        exact this (List.mem_filterMap.2 ⟨j, List.mem_cons_self .., he⟩)
      rw [show Nat.beq d e = false from by cases q : Nat.beq d e; rfl; exact absurd (Nat.eq_of_beq_eq_true q) hne]
      rfl
    have hupd : ∀ v, upd ρ d v d = v := fun v => by unfold upd; simp
    have hsub : ∀ t v, look (lkx ops tbl m l vs exs k) t = some v → look (lk ops tbl m l k ρ) t = some v := by
      intro t v hv
      unfold lkx at hv
      unfold lk
      rcases look_append hv with h | h
      · obtain ⟨h1, h2⟩ := look_filterMap (ρ := ρ) (D := (tb tbl k).filterMap (dstOf ops)) (by
          intro j hj d u hu
          cases ha : nmem j exs with
          | true => rw [ha] at hu; cases hu
          | false =>
            rw [ha] at hu
            simp only [cond_false] at hu
            cases hd : dstOf ops j with
            | none => rw [hd] at hu; cases hu
            | some d' =>
              rw [hd] at hu
              simp only [Option.some.injEq, Prod.mk.injEq] at hu
              obtain ⟨rfl, rfl⟩ := hu
              exact ⟨hset j (ancLt j hj) (hanc j hj) ha d' hd, List.mem_filterMap.2 ⟨j, hj, hd⟩⟩) h
        rw [h2]
        exact look_map_mem h1 _
      · by_cases ht : t ∈ (tb tbl k).filterMap (dstOf ops)
        · exfalso
          obtain ⟨h1, h2⟩ := look_filter (p := fun t => baseOk ops tbl m k t) h
          obtain ⟨j, hj, hjd⟩ := List.mem_filterMap.1 ht
          have hjk := hc.lt k (by omega) j hj
          have := allB_spec h2 j (by omega)
          simp only [hjd, Nat.beq_refl, Bool.not_true, Bool.false_or] at this
          have := hc.lt j (by omega) k (nmem_iff.1 this)
          omega
        · rw [look_append_right]
          · exact h
          · intro p hp
            obtain ⟨t', ht', rfl⟩ := List.mem_map.1 hp
            intro e
            simp only at e
            exact ht (e ▸ ht')
    have hcv := allB_spec hcov k hk
    refine V1_sub hsub ?_
    -- one whose value is settled
    have fin : nmem k exs = false → ∀ l' w'', (∃ d, dstOf ops k = some d ∧ look l' d = some (vs.getD k undef)) → Step No w1 w'' → (∃ v d, dstOf ops k = some d ∧ look l' d = some v ∧ (Step No w w'' ∧ I (fun j => if j = k then true else D j) (usOf ops (upd ρ d v)) w'' ∧ ∀ j, j < m → (if j = k then true else D j) = true → nmem j exs = false → ∀ d', dstOf ops j = some d' → upd ρ d v d' = vs.getD j undef)) := by
      rintro hna l' w'' ⟨d0, h1, h2⟩ h3
      rw [hd] at h1
      simp only [Option.some.injEq] at h1
      subst h1
      refine ⟨_, d, hd, h2, hs1.trans h3, ?_, ?_⟩
      · refine hIc D _ (usOf ops ρ) _ w'' (fun j hj => ?_) (hI _ _ _ _ hI1 h3)
        have hjk : j ≠ k := by rintro rfl; rw [hna] at hj; cases hj
        refine ⟨by simp [hjk], fun hDj => ?_⟩
        unfold usOf
        cases hdj : dstOf ops j with
        | none => rfl
        | some e => exact hkeep _ j (hexm j hj) hDj e hdj
      · intro j hj hDj hja d' hd'
        by_cases e : j = k
        · subst e
          rw [hd] at hd'
          simp only [Option.some.injEq] at hd'
          subst hd'
          exact hupd _
        · simp only [if_neg e] at hDj
          rw [hkeep _ j hj hDj d' hd']
          exact hset j hj hDj hja d' hd'
    simp only [Bool.or_eq_true] at hcv
    rcases hcv with (hk1 | hk2) | hk3
    · have hmem := nmem_iff.1 hk1
      have hna : nmem k exs = false := by simpa using (List.all_eq_true.1 hks) k hmem
      have hp := map_eq_at hpure k hmem
      obtain ⟨o, ho, hod⟩ : ∃ o, ops[k]? = some o ∧ o.dst = some d := Option.bind_eq_some_iff.1 hd
      unfold pureAt at hp
      rw [ho] at hp
      simp only [hod] at hp
      rw [show Nat.blt d n = true from Nat.ble_eq_true_of_le hdn] at hp
      simp only [cond_true] at hp
      exact V1_pure ho hp hod hdn (.inl (fin hna _ _ ⟨d, hd, look_head⟩ (Step.refl _ _)))
    · have hmem := nmem_iff.1 hk2
      have hna : nmem k exs = false := by simpa using (List.all_eq_true.1 hjs) k hmem
      have h1 := AncAll_spec (hj w1 hs1) k hmem
      intro a ha
      refine wpOpIn_mono ?_ (h1 a ha)
      rintro a' w'' ⟨l', hl', d0, h2, h3, h4⟩
      exact ⟨l', hl', .inl (fin hna l' w'' ⟨d0, h2, h3⟩ h4)⟩
    · have h1 := AncAll_spec (hx D (usOf ops ρ) w1 hs1 hI1) k (nmem_iff.1 hk3) hDk
      intro a ha
      refine wpOpIn_mono ?_ (h1 a ha)
      rintro a' w'' ⟨l', hl', v, d0, h2, h3, h4, h5⟩
      rw [hd] at h2
      simp only [Option.some.injEq] at h2
      subst h2
      refine ⟨l', hl', .inl ⟨v, d, hd, h3, hs1.trans h4, ?_, ?_⟩⟩
      · refine hIc _ _ _ _ w'' (fun j hj => ⟨rfl, fun hDj => ?_⟩) h5
        by_cases e : j = k
        · subst e
          simp only [if_true]
          unfold usOf
          rw [hd]
          exact hupd v
        · simp only [if_neg e] at hDj ⊢
          unfold usOf
          cases hdj : dstOf ops j with
          | none => rfl
          | some e' => exact hkeep _ j (hexm j hj) hDj e' hdj
      · intro j hj hDj hja d' hd'
        by_cases e : j = k
        · subst e; rw [hk3] at hja; cases hja
        · simp only [if_neg e] at hDj
          rw [hkeep _ j hj hDj d' hd']
          exact hset j hj hDj hja d' hd'
  · rintro D ρ w1 ⟨hs1, hI1, hset⟩ hD
    have hl : lm ops m l ρ = lmx ops m l vs exs (usOf ops ρ) := by
      unfold lm lmx
      congr 1
      rw [List.map_filterMap]
      apply filterMap_congr'
      intro j hj
      have hjm := List.mem_range.1 hj
      cases hdj : dstOf ops j with
      | none => rfl
      | some dj =>
        simp only [Option.map_some, Option.some.injEq, Prod.mk.injEq, true_and]
        cases ha : nmem j exs with
        | true => simp [usOf, hdj]
        | false =>
          simp only [cond_false]
          exact hset j hjm (hD j hjm) ha dj hdj
    rw [hl]
    exact tail w1 _ hs1 (hIc D _ _ _ w1 (fun k hk => ⟨(hD k (hexm k hk)).symm, fun _ => rfl⟩) hI1)
  · have : (List.range ops.size).filter (fun j => !(Array.replicate ops.size false).getD j true) = List.range ops.size := List.filter_eq_self.2 fun j hj => by
      rw [hrep j]
      have := List.mem_range.1 hj
      simp; omega
    rw [this]; simp
  · intro k hk h
    rw [hrep k] at h; simp at h; omega
  · refine ⟨drew_step w, hI _ _ _ _ (hI0 _ _ fun k hk => ?_) (drew_step w), ?_⟩
    · simp only [hrep k]; have := hexm k hk; simp; omega
    · intro j hj hDj
      simp only [hrep j] at hDj; simp at hDj; omega
  · intro j hj t h
    rw [hrep j] at h; simp at h; omega
  · intro j _ hj
    rw [hrep j]; simp; omega
end
end Go.Vc
end
