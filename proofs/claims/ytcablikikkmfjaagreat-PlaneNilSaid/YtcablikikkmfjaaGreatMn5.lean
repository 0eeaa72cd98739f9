import Derived.Test.YtcablikikkmfjaaGreatProg
import Derived.Lib.AppendZeros
import Derived.Test.YtcablikikkmfjaaGreatMn4
section
/- Layers 1, 3: Eight, Syndrome, Bit, Seal, Take. -/
set_option linter.unusedVariables false
set_option linter.unusedSimpArgs false
set_option maxRecDepth 100000
set_option maxHeartbeats 4000000
namespace Go.Proofs.YtcablikikkmfjaaGreat
open Go.Vc Go.RowKit
theorem THd1aa {P : Prop} (h : P := by intro i hi; first | exact hi | exact ⟨_, by assumption, hi⟩ | (have hi9 : i = b := hi; (first | show _ ∨ _ | show _ = _); omega)) : P := h
theorem THd1ab {P : Prop} (h : P := by first | rfl | (simp only [List.length_take, List.length_set]; omega)) : P := h
theorem THd1ac {P : Prop} (h : P := by simp only [iA_size, List.length_singleton]; exact (by (try simp only [List.length_set, List.length_append, List.length_map, List.length_replicate, List.length_cons, List.length_nil, List.length_take, List.length_drop, List.length_range]) <;> omega)) : P := h
theorem THd1ad {P : Prop} (h : P := by have hq9 : (bs.set ((bitV (synB bs)) / 8) (bXor .u8 (bs.getD ((bitV (synB bs)) / 8) 0) ((128 : Int).fdiv (2 ^ ((bitV (synB bs)) % 8))))).length = 5 := (by (try simp only [List.length_set, List.length_append, List.length_map, List.length_replicate, List.length_cons, List.length_nil, List.length_take, List.length_drop, List.length_range]) <;> omega); omega) : P := h
theorem THd1ae {P : Prop} (h : P := by rw [show ((bitV (synB bs) : Nat) : Int).tdiv 8 = (((bitV (synB bs)) / 8 : Nat) : Int) from tdiv_nat (bitV (synB bs)) 8, wrap_i64 _ (by omega) (by omega)]) : P := h
theorem THd1af {P : Prop} (h : P := by have hq9 : bs.length = 5 := (by (try simp only [List.length_set, List.length_append, List.length_map, List.length_replicate, List.length_cons, List.length_nil, List.length_take, List.length_drop, List.length_range]) <;> omega); omega) : P := h
theorem THd1ag {P : Prop} (h : P := by simp only [hg1, Bool.true_and, Bool.false_and, Bool.true_or, Bool.false_or, Bool.not_true, Bool.not_false]) : P := h
theorem THd1ah {P : Prop} (h : P := by unfold takeC; first | rfl | simp [*]) : P := h
theorem THd1ai {P : Prop} (h : P := by first | exact Nat.le_refl _ | omega) : P := h
theorem THd1aj {P : Prop} (h : P := by rw [show ((k : Nat) : Int).tdiv 8 = ((k / 8 : Nat) : Int) from tdiv_nat k 8, wrap_i64 _ (by omega) (by omega)]) : P := h
theorem THd1ak {P : Prop} (h : P := by first | exact hn | rfl | simp [putL, hn]) : P := h

theorem eight_any (A : Option Addr) (n c Bd : Nat) (bs : List Int) (w : World) (hn : bs.length = n) (hA : Sl w Bd A (iL .u8 bs)) (hlen : n < 1152921504606846976) (hBd : Bd ≤ w.heap.size) :
  CV Tryz.prog 120 #[.slice A n c] w (fun x w1 => x = .int .u8 (eightB bs) ∧ Step No w w1) := by
 have hS : Step No w w := Step.refl _ _
 refine VCe Tryz.func120 (Vrp (Vs (Vr (Vp 1 ?_))))
 refine Vc 1 Tryz.call191 (rest_any A n c _ bs _ hn hA 0 128 7 (by omega) THd1ai) ?_
 rintro _ w1 ⟨rfl, hc1⟩
 replace hS := Step.trans hS hc1
 refine Ve (Vn (VC_ret (Vr1 (.int .u8 (bXor .u8 (IntKind.wrap .u8 (restB bs 0 128 7)) 85)) ?_)))
 exact ⟨rfl, hS⟩

theorem syn5_any (A : Option Addr) (c Bd : Nat) (bs : List Int) (w : World) (hn : bs.length = 5) (hA : Sl w Bd A (iL .u8 bs)) (hc : 5 ≤ c) (hBd : Bd ≤ w.heap.size) :
  CV Tryz.prog 127 #[.slice A 5 c] w (fun x w1 => x = .int .u8 (synB bs) ∧ Step No w w1) := by
 have hS : Step No w w := Step.refl _ _
 refine VCe Tryz.func127 (Vrp (Vrp (Vs (Vrp (Vf (VC_skip (Vn (Vs ?_))))))))
 obtain ⟨sb1, so1, rfl, hlbsb1⟩ := hA.open (by simp only [iL_length]; omega)
 have hs1 := drew_step w
 have hs1z : w.heap.size = w.drew.heap.size := rfl
 refine Tx 8 (fun k => w.heap.size ≤ k) [7] [0, 1, 2, 3, 4, 5, 6, 7] ?_
 generalize w.drew = w1 at hs1 hs1z ⊢
 replace hS := Step.trans hS hs1
 replace hA := hA.no hs1
 refine Tp 2 (VT_index (d := 11) (b := sb1) (o := so1) (len := 5) (sz := 1) (mm := 4) (by kernel_rfl) (by kernel_rfl) 4 (by rfl) (by omega) (so1 + 4) (by omega) (VT_load (d := 12) (t := 5) (a := ⟨sb1, so1 + 4, none⟩) (v := .int .u8 (bs.getD 4 0)) (by kernel_rfl) (by kernel_rfl) ?_ ?_))
 ·intro w2 hr1
  replace hA := hA.keepB hr1 (by (try simp only); omega)
  exact (Sl.ldI hA (by kernel_rfl) 4 (by (try simp only [List.length_set, List.length_append, List.length_map, List.length_replicate, List.length_cons, List.length_nil, List.length_take, List.length_drop, List.length_range]) <;> omega))
 refine Tp 2 (VT_slice (d := 15) (b := sb1) (o := so1) (sz := 1) (len := 5) (cap := c) (lo := none) (hi := (some 4)) (mx := none) (by kernel_rfl) (by kernel_rfl) (fun h => by first | exact absurd rfl h | exact (fun h => by cases h)) 0 4 c rfl rfl rfl (by omega) (by omega) (by omega) so1 (by split <;> omega) 4 (by omega) c (by omega) ?_)
 have hsl1 := Sl.takeI hA 4
 refine Th ?_
 intro w3 hs2
 have hzhs2 := hs2.size
 replace hS := Step.trans hS hs2
 replace hsl1 := hsl1.no hs2
 refine Tc Tryz.call120 (eight_any (some ⟨sb1, so1, none⟩) 4 c _ (bs.take 4) _ (by simp only [List.length_take, List.length_drop]; omega) hsl1 (by omega) THd1ai) ?_ ?_
 ·rintro _ w4 ⟨rfl, hc1⟩
  exact Step.mono hc1 (by intro i hi; first | exact hi.elim | exact .inl hi | ((try simp only at hi ⊢); omega))
 rintro _ w4 ⟨rfl, hc1⟩
 replace hS := Step.trans hS hc1
 refine VT_end ?_
 intro w5 hs3
 replace hS := Step.trans hS hs3
 refine Ve (Vn (VC_ret (Vr1 (.int .u8 (bXor .u8 (bs.getD 4 0) (eightB (bs.take 4)))) ?_)))
 exact ⟨rfl, hS⟩

theorem syn_any (A : Option Addr) (n c Bd : Nat) (bs : List Int) (w : World) (hn : bs.length = n) (hA : Sl w Bd A (iL .u8 bs)) (h5 : n = 5) (hc : n ≤ c) (hBd : Bd ≤ w.heap.size) : CV Tryz.prog 127 #[.slice A n c] w (fun x w1 => x = .int .u8 (synB bs) ∧ Step No w w1) := by
  subst h5; exact syn5_any A c Bd bs w hn hA hc hBd
theorem bit_any (s : Int) (w : World) :
  CV Tryz.prog 128 #[.int .u8 s] w (fun x w1 => x = .tuple #[I6 ((bitV s : Nat) : Int), Bo (bitOk s)] ∧ Step No w w1) := by
 have hS : Step No w w := Step.refl _ _
 refine VCe Tryz.func128 (Vrp (Vs (Vrp (VC_block (VC_loop (σ := Nat) (fun σs => [(0, .int .u8 s), (6, I6 ((σs : Nat) : Int))]) (fun σs w1 => (σs ≤ 40) ∧ (∀ i, i < σs → synB (patB i) ≠ s) ∧ (Step No w w1)) (fun σs w1 => 40 - σs) 0 Su ?_ ?_)))))
 ·exact ⟨Nat.zero_le _, fun i hi => absurd hi (Nat.not_lt_zero _), hS⟩
 rintro k w1 ⟨hk, hno, hS⟩
 try dsimp only at hk hno hS ⊢
 refine Vrp (Vs (Vid (((k : Nat) : Int) < 40) (fun h1 => ?_) (fun h1 => ?_)))
 ·refine VC_skip (Vn (Vs (VC_block (Vrp (Vs (Vr (Vp 1 ?_)))))))
  have hzs1 := hS.size
  refine Vx 1 149 (iA .u8 (List.replicate 5 0)) ?_
  intro b1 w2 hn1
  replace hS := Step.trans hS (hn1.step No)
  have ho1 := hn1.own
  have hzhn1 := hn1.size
  have hqhn1 := hn1.eqb
  refine VL_storeA (b := b1) (sz := 5) (k := .u8) (bs := [0, 0, 0, 0, 85]) (by kernel_rfl) (by kernel_rfl) (by (try simp only [List.length_set, List.length_append, List.length_map, List.length_replicate, List.length_cons, List.length_nil, List.length_take, List.length_drop, List.length_range]) <;> omega) ho1 (iA_size.trans (by (try simp only [List.length_set, List.length_append, List.length_map, List.length_replicate, List.length_cons, List.length_nil, List.length_take, List.length_drop, List.length_range]) <;> omega)) ?_
  intro w3 hw1
  replace hS := Step.transNew hS hw1.step (fun _ _ _ => by omega)
  have ho2 := hw1.own
  have hzhw1 := hw1.same
  refine Ve (Vn (Vs ?_))
  have hs1 := drew_step w3
  have hs1z : w3.heap.size = w3.drew.heap.size := rfl
  refine Tx 7 (fun k => w3.heap.size ≤ k) [] [0, 1, 2, 3, 4, 5, 6] ?_
  generalize w3.drew = w4 at hs1 hs1z ⊢
  replace hS := Step.trans hS hs1
  replace ho2 := ho2.no hs1
  refine Tp 2 (VT_index (d := 12) (b := b1) (o := 0) (len := 5) (sz := 1) (mm := (IntKind.wrap .i64 (((k : Nat) : Int).tdiv 8))) (by kernel_rfl) (by kernel_rfl) (k / 8) THd1aj (by omega) (k / 8) (by omega) (VT_load (d := 13) (t := 5) (a := ⟨b1, (k / 8), none⟩) (v := .int .u8 (([0, 0, 0, 0, 85]).getD (k / 8) 0)) (by kernel_rfl) (by kernel_rfl) ?_ ?_))
  ·intro w5 hr1
   replace ho2 := ho2.step hr1 (by (try simp only); omega)
   exact (Loads.arr1 ho2 (by kernel_rfl) (by (try simp only [List.length_set, List.length_append, List.length_map, List.length_replicate, List.length_cons, List.length_nil, List.length_take, List.length_drop, List.length_range]) <;> omega))
  refine Tp 2 (VT_shr (d := 16) (kd := .u8) (x := 128) (y := (((k : Nat) : Int).tmod 8)) (by kernel_rfl) (by kernel_rfl) (k % 8) (tmod_nat k 8) (by simp only [IntKind.bits]; omega) (VT_end ?_))
  intro w6 hs2
  replace hS := Step.trans hS hs2
  replace ho2 := ho2.no hs2
  refine Vp 8 (VL_index (d := 18) (b := b1) (o := 0) (len := 5) (sz := 1) (m := (IntKind.wrap .i64 (((k : Nat) : Int).tdiv 8))) (by kernel_rfl) (by kernel_rfl) (k / 8) THd1aj (by omega) (k / 8) (by omega) (VL_store (b := b1) (o := (k / 8)) (vs := [.int .u8 (bXor .u8 (([0, 0, 0, 0, 85]).getD (k / 8) 0) ((128 : Int).fdiv (2 ^ (k % 8))))]) (by kernel_rfl) (by kernel_rfl) ho2 THd1ac ?_))
  intro w7 hw2
  replace hS := Step.transNew hS hw2.step (fun _ _ _ => by omega)
  have ho3 := Own.cast hw2.own (iA_set (k / 8) (bXor .u8 (([0, 0, 0, 0, 85]).getD (k / 8) 0) ((128 : Int).fdiv (2 ^ (k % 8)))) (by (try simp only [List.length_set, List.length_append, List.length_map, List.length_replicate, List.length_cons, List.length_nil, List.length_take, List.length_drop, List.length_range]) <;> omega))
  refine Ve (Vn (Vs (Vr (Vp 1 ?_))))
  refine Vc 1 Tryz.call127 (syn_any (some ⟨b1, 0, none⟩) 5 5 _ (([0, 0, 0, 0, 85]).set (k / 8) (bXor .u8 (([0, 0, 0, 0, 85]).getD (k / 8) 0) ((128 : Int).fdiv (2 ^ (k % 8))))) _ (by (try simp only [List.length_set, List.length_append, List.length_map, List.length_replicate, List.length_cons, List.length_nil, List.length_take, List.length_drop, List.length_range]) <;> omega) (Own.slI ho3 ho3.lt) (by first | rfl | omega) (by omega) THd1ai) ?_
  rintro _ w8 ⟨rfl, hc1⟩
  replace hS := Step.trans hS hc1
  replace ho3 := ho3.no hc1
  refine Ve (Vn (Vie (synB (([0, 0, 0, 0, 85]).set (k / 8) (bXor .u8 (([0, 0, 0, 0, 85]).getD (k / 8) 0) ((128 : Int).fdiv (2 ^ (k % 8)))))) s (fun h2 => ?_) (fun h2 => ?_)))
  ·refine Vrp (VC_ret (VQ_block_ret (VQ_then_ret (VQ_then_ret (VQ_block_ret (VQ_then_ret (Vr2 (I6 ((k : Nat) : Int)) (Bo true) ?_)))))))
   obtain ⟨e1, e2⟩ := bit_hit (k := k) (by omega) hno (by unfold patB turn1; assumption)
   exact ⟨by rw [e1, e2], hS⟩
  ·refine VC_skip (VQ_block_normal (Vn (Vr (Vp 1 ?_))))
   have he1 : IntKind.wrap .i64 (((k : Nat) : Int) + 1) = ((k + 1 : Nat) : Int) := (by rw [wrap_i64 _ (by omega) (by omega)]; omega)
   refine Vq 24 (I6 (IntKind.wrap .i64 (((k : Nat) : Int) + 1))) (I6 ((k + 1 : Nat) : Int)) (by rw [he1]) (Ve (VQ_again (k + 1) Su ?_ ?_))
   ·exact ⟨(by omega), (fun i hi => if h9 : i < k then hno i h9 else (by obtain rfl : i = k := (by omega); unfold patB turn1; assumption)), hS⟩
   ·(try dsimp only); omega
 ·refine VC_exit (VQ_then_exit (VQ_then_exit (VQ_block_hit (Vn (Vrp (VC_ret (Vr2 (I6 0) (Bo false) ?_)))))))
  obtain rfl : k = 40 := by omega
  obtain ⟨e1, e2⟩ := bit_miss hno
  exact ⟨by rw [e1, e2]; rfl, hS⟩

theorem hseal_any (bs : List Int) (w : World) (hn : bs.length = 4) :
  CV Tryz.prog 64 #[.agg (iA .u8 bs)] w (fun x w1 => x = .agg (iA .u8 (sealH bs)) ∧ Step No w w1) := by
 have hS : Step No w w := Step.refl _ _
 refine CV_enter Tryz.f64 _ 11 [(0, .agg (iA .u8 bs))] Tryz.func64 rfl rfl (by kernel_rfl) rfl ?_
 refine VC_seq ?_
 refine VC_region ?_
 refine VL_box (d := 1) (t := 151) (c := iA .u8 bs) (by kernel_rfl) (by kernel_rfl) ?_
 intro b1 w1 hn1
 replace hS := Step.trans hS (hn1.step No)
 have ho1 := hn1.own
 have hzhn1 := hn1.size
 have hqhn1 := hn1.eqb
 refine VL_box (d := 2) (t := 149) (c := iA .u8 (List.replicate 5 0)) (by kernel_rfl) (by kernel_rfl) ?_
 intro b2 w2 hn2
 replace hS := Step.trans hS (hn2.step No)
 replace ho1 := ho1.no (hn2.step No)
 have ho2 := hn2.own
 have hzhn2 := hn2.size
 have hqhn2 := hn2.eqb
 refine VL_end (by kernel_rfl) ?_
 refine VQ_next ?_
 refine VC_seq ?_
 refine VC_region ?_
 refine VL_pure 1 [1, 2, 4] [(1, .pointer (some ⟨b1, 0, none⟩)), (2, .pointer (some ⟨b2, 0, none⟩)), (4, .slice (some ⟨b1, 0, none⟩) 4 4)] (by kernel_rfl) rfl ?_
 refine VL_call (d := 5) (f := 120) (args := #[.slice (some ⟨b1, 0, none⟩) 4 4]) (by kernel_rfl) (by kernel_rfl) (by kernel_rfl) Tryz.call120 (eight_any (some ⟨b1, 0, none⟩) 4 4 _ bs _ (by (try simp only [List.length_set, List.length_append, List.length_map, List.length_replicate, List.length_cons, List.length_nil, List.length_take, List.length_drop, List.length_range]) <;> omega) (Own.slI ho1 ho1.lt) (by omega) THd1ai) ?_
 rintro _ w3 ⟨rfl, hc1⟩
 replace hS := Step.trans hS hc1
 replace ho1 := ho1.no hc1
 replace ho2 := ho2.no hc1
 refine VL_pure 3 [1, 2, 6] [(1, .pointer (some ⟨b1, 0, none⟩)), (2, .pointer (some ⟨b2, 0, none⟩)), (6, .agg #[.int .u8 0, .int .u8 0, .int .u8 0, .int .u8 0, .int .u8 (eightB bs)])] (by kernel_rfl) rfl ?_
 have hzl6 := ho2.lt
 refine VL_box (d := 3) (t := 149) (c := iA .u8 (List.replicate 5 0)) (by kernel_rfl) (by kernel_rfl) ?_
 intro b3 w4 hn3
 replace hS := Step.trans hS (hn3.step No)
 replace ho1 := ho1.no (hn3.step No)
 replace ho2 := ho2.no (hn3.step No)
 have ho3 := hn3.own
 have hzhn3 := hn3.size
 have hqhn3 := hn3.eqb
 refine VL_storeA (b := b3) (sz := 5) (k := .u8) (bs := [0, 0, 0, 0, eightB bs]) (by kernel_rfl) (by kernel_rfl) THd1ak ho3 (iA_size.trans (by (try simp only [List.length_set, List.length_append, List.length_map, List.length_replicate, List.length_cons, List.length_nil, List.length_take, List.length_drop, List.length_range]) <;> omega)) ?_
 intro w5 hw1
 replace hS := Step.transNew hS hw1.step (fun _ _ _ => by omega)
 replace ho1 := ho1.step hw1.step (show ¬ b1 = b3 by omega)
 replace ho2 := ho2.step hw1.step (show ¬ b2 = b3 by omega)
 have ho4 := hw1.own
 have hzhw1 := hw1.same
 refine VL_end (by kernel_rfl) ?_
 refine VQ_next ?_
 refine VC_seq ?_
 refine VC_det [[], [], [0, 1]] 2 [.slice (some ⟨b3, 0, none⟩) 5 5, .slice (some ⟨b1, 0, none⟩) 4 4] [0, 1] [] (by kernel_rfl) (by kernel_rfl) (by kernel_rfl) (by kernel_rfl) ?_ ?_
 ·exact fun _ _ => trivial
 intro w6 hs1
 replace hS := Step.trans hS hs1
 replace ho1 := ho1.no hs1
 replace ho2 := ho2.no hs1
 replace ho4 := ho4.no hs1
 refine VL_keep [2, 3, 7, 8] [(2, .pointer (some ⟨b2, 0, none⟩)), (3, .pointer (some ⟨b3, 0, none⟩)), (7, .slice (some ⟨b3, 0, none⟩) 5 5), (8, .slice (some ⟨b1, 0, none⟩) 4 4)] (by kernel_rfl) ?_
 refine VL_copyA (d := 9) (b := b3) (o := 0) (dl := 5) (A2 := (some ⟨b1, 0, none⟩)) (sl := 4) (k := .u8) (bs := ([0, 0, 0, 0, eightB bs])) (vs := bs) (by kernel_rfl) (by kernel_rfl) (by (try simp only [List.length_set, List.length_append, List.length_map, List.length_replicate, List.length_cons, List.length_nil, List.length_take, List.length_drop, List.length_range]) <;> omega) (by omega) (Own.slI ho1 ho1.lt) ho4 (by (try simp only [List.length_set, List.length_append, List.length_map, List.length_replicate, List.length_cons, List.length_nil, List.length_take, List.length_drop, List.length_range]) <;> omega) ?_
 intro w7 hw2
 replace hS := Step.transNew hS hw2.step (fun _ _ _ => by omega)
 replace ho2 := ho2.step hw2.step (show ¬ b2 = b3 by omega)
 have ho5 := hw2.own
 refine VL_end (by kernel_rfl) ?_
 refine VQ_next ?_
 refine VC_seq ?_
 refine VC_region ?_
 refine VL_load (d := 10) (t := 149) (a := ⟨b3, 0, none⟩) (v := .agg (iA .u8 (putL ([0, 0, 0, 0, eightB bs]) 0 bs))) (by kernel_rfl) (by kernel_rfl) (Loads.arr (N := 5) ho5 (by kernel_rfl) THd1ak) ?_
 refine VL_storeA (b := b2) (sz := 5) (k := .u8) (bs := putL ([0, 0, 0, 0, eightB bs]) 0 bs) (by kernel_rfl) (by kernel_rfl) THd1ak ho2 (iA_size.trans (by (try simp only [List.length_set, List.length_append, List.length_map, List.length_replicate, List.length_cons, List.length_nil, List.length_take, List.length_drop, List.length_range]) <;> omega)) ?_
 intro w8 hw3
 replace hS := Step.transNew hS hw3.step (fun _ _ _ => by omega)
 have ho6 := hw3.own
 refine VL_end (by kernel_rfl) ?_
 refine VQ_next ?_
 refine VC_ret ?_
 refine VQ_retC1 (T := 149) (.agg (iA .u8 (putL ([0, 0, 0, 0, eightB bs]) 0 bs))) (.inr rfl) rfl rfl (Loads.arr (N := 5) ho6 (by kernel_rfl) THd1ak) ?_
 exact ⟨congrArg (fun z => Value.agg (iA .u8 z)) (seal_put hn), hS⟩

theorem rcdrop (b : Nat) (r d : Int) (cf : Bool) (w : World) (ht : Own w b #[.int .i64 r, .int .i64 d, .bool cf] 72) :
  CV Tryz.prog 129 #[.pointer (some ⟨b, 0, none⟩)] w (fun x w1 => x = .tuple #[.agg (iA .u8 [0, 0, 0, 0]), .bool false] ∧ (∃ d', Own w1 b #[.int .i64 r, .int .i64 d', .bool cf] 72) ∧ Step (Just b) w w1) := by
 have hS : Step (Just b) w w := Step.refl _ _
 have hbl := ht.lt
 refine CV_enter Tryz.f129 _ 12 [(0, .pointer (some ⟨b, 0, none⟩))] Tryz.func129 rfl rfl (by kernel_rfl) rfl ?_
 refine VC_seq ?_
 refine VC_region ?_
 refine VL_box (d := 2) (t := 151) (c := iA .u8 (List.replicate 4 0)) (by kernel_rfl) (by kernel_rfl) ?_
 intro b1 w1 hn1
 replace hS := Step.trans hS (Step.weak (hn1.step No))
 replace ht := ht.no (hn1.step No)
 have ho1 := hn1.own
 have hzhn1 := hn1.size
 have hqhn1 := hn1.eqb
 refine VL_pure 2 [0, 2] [(0, .pointer (some ⟨b, 0, none⟩)), (2, .pointer (some ⟨b1, 0, none⟩))] (by kernel_rfl) rfl ?_
 refine VL_end (by kernel_rfl) ?_
 refine VQ_next ?_
 refine VC_seq ?_
 refine VC_region ?_
 refine VL_pure 3 [2, 4, 6] [(2, .pointer (some ⟨b1, 0, none⟩)), (4, .pointer (some ⟨b, 0, none⟩)), (6, .pointer (some ⟨b, 1, none⟩))] (by kernel_rfl) rfl ?_
 refine VL_load (d := 7) (t := 3) (a := ⟨b, 1, none⟩) (v := .int .i64 d) (by kernel_rfl) (by kernel_rfl) (Loads.own1 ht (by kernel_rfl) (by rfl)) ?_
 refine VL_pure 7 [2, 8, 10] [(2, .pointer (some ⟨b1, 0, none⟩)), (8, .int .i64 (IntKind.wrap .i64 (d + 1))), (10, .pointer (some ⟨b, 1, none⟩))] (by kernel_rfl) rfl ?_
 refine VL_store (b := b) (o := 1) (vs := [.int .i64 (IntKind.wrap .i64 (d + 1))]) (by kernel_rfl) (by kernel_rfl) ht (Nat.le_of_ble_eq_true (by kernel_rfl)) ?_
 intro w2 hw1
 replace hS := Step.trans hS (Step.mono hw1.step THd1aa)
 replace ho1 := ho1.step hw1.step (show ¬ b1 = b by omega)
 have ho2 : Own w2 b #[.int .i64 r, .int .i64 (IntKind.wrap .i64 (d + 1)), .bool cf] 72 := Own.cast hw1.own (by kernel_rfl)
 have hzhw1 := hw1.same
 refine VL_end (by kernel_rfl) ?_
 refine VQ_next ?_
 refine VC_seq ?_
 refine VC_region ?_
 refine VL_pure 1 [2, 11] [(2, .pointer (some ⟨b1, 0, none⟩)), (11, .agg #[.int .u8 0, .int .u8 0, .int .u8 0, .int .u8 0])] (by kernel_rfl) rfl ?_
 refine VL_storeA (b := b1) (sz := 4) (k := .u8) (bs := List.replicate 4 0) (by kernel_rfl) (by kernel_rfl) (by (try simp only [List.length_set, List.length_append, List.length_map, List.length_replicate, List.length_cons, List.length_nil, List.length_take, List.length_drop, List.length_range]) <;> omega) ho1 (iA_size.trans (by (try simp only [List.length_set, List.length_append, List.length_map, List.length_replicate, List.length_cons, List.length_nil, List.length_take, List.length_drop, List.length_range]) <;> omega)) ?_
 intro w3 hw2
 replace hS := Step.transNew hS hw2.step (fun _ _ _ => by omega)
 replace ho2 := ho2.step hw2.step (show ¬ b = b1 by omega)
 have ho3 := hw2.own
 refine VL_pure 3 [2, 3] [(2, .pointer (some ⟨b1, 0, none⟩)), (3, .bool false)] (by kernel_rfl) rfl ?_
 refine VL_end (by kernel_rfl) ?_
 refine VQ_next ?_
 refine VC_ret ?_
 refine VQ_retC1T1 (T := 151) (.agg (iA .u8 (List.replicate 4 0))) (.bool false) (.inr rfl) rfl rfl rfl (Loads.arr (N := 4) ho3 (by kernel_rfl) (by (try simp only [List.length_set, List.length_append, List.length_map, List.length_replicate, List.length_cons, List.length_nil, List.length_take, List.length_drop, List.length_range]) <;> omega)) ?_
 exact ⟨rfl, ⟨_, ho2⟩, hS⟩

theorem rctake (b : Nat) (r d : Int) (cf : Bool) (bs : List Int) (w : World) (hn : bs.length = 5) (ht : Own w b #[.int .i64 r, .int .i64 d, .bool cf] 72) :
  CV Tryz.prog 72 #[.pointer (some ⟨b, 0, none⟩), .agg (iA .u8 bs)] w (fun x w1 => x = .tuple #[.agg (iA .u8 (takeH cf bs)), .bool (takeO cf bs)] ∧ (∃ r' d', Own w1 b #[.int .i64 r', .int .i64 d', .bool (takeC bs)] 72) ∧ Step (Just b) w w1) := by
 have hS : Step (Just b) w w := Step.refl _ _
 have hbl := ht.lt
 refine CV_enter Tryz.f72 _ 66 [(0, .pointer (some ⟨b, 0, none⟩)), (1, .agg (iA .u8 bs))] Tryz.func72 rfl rfl (by kernel_rfl) rfl ?_
 refine VC_seq ?_
 refine VC_region ?_
 refine VL_box (d := 3) (t := 149) (c := iA .u8 bs) (by kernel_rfl) (by kernel_rfl) ?_
 intro b1 w1 hn1
 replace hS := Step.trans hS (Step.weak (hn1.step No))
 replace ht := ht.no (hn1.step No)
 have ho1 := hn1.own
 have hzhn1 := hn1.size
 have hqhn1 := hn1.eqb
 refine VL_box (d := 4) (t := 151) (c := iA .u8 (List.replicate 4 0)) (by kernel_rfl) (by kernel_rfl) ?_
 intro b2 w2 hn2
 replace hS := Step.trans hS (Step.weak (hn2.step No))
 replace ht := ht.no (hn2.step No)
 replace ho1 := ho1.no (hn2.step No)
 have ho2 := hn2.own
 have hzhn2 := hn2.size
 have hqhn2 := hn2.eqb
 refine VL_pure 3 [0, 3, 4] [(0, .pointer (some ⟨b, 0, none⟩)), (3, .pointer (some ⟨b1, 0, none⟩)), (4, .pointer (some ⟨b2, 0, none⟩))] (by kernel_rfl) rfl ?_
 refine VL_end (by kernel_rfl) ?_
 refine VQ_next ?_
 refine VC_seq ?_
 refine VC_seq ?_
 refine VC_region ?_
 refine VL_pure 2 [0, 3, 4, 11] [(0, .pointer (some ⟨b, 0, none⟩)), (3, .pointer (some ⟨b1, 0, none⟩)), (4, .pointer (some ⟨b2, 0, none⟩)), (11, .bool false)] (by kernel_rfl) rfl ?_
 refine VL_end (by kernel_rfl) ?_
 refine VQ_next ?_
 refine VC_false (by kernel_rfl) ?_
 refine VC_skip ?_
 refine VQ_next ?_
 refine VC_seq ?_
 refine VC_region ?_
 refine VL_pure 1 [0, 3, 4, 13] [(0, .pointer (some ⟨b, 0, none⟩)), (3, .pointer (some ⟨b1, 0, none⟩)), (4, .pointer (some ⟨b2, 0, none⟩)), (13, .slice (some ⟨b1, 0, none⟩) 5 5)] (by kernel_rfl) rfl ?_
 refine VL_call (d := 14) (f := 127) (args := #[.slice (some ⟨b1, 0, none⟩) 5 5]) (by kernel_rfl) (by kernel_rfl) (by kernel_rfl) Tryz.call127 (syn_any (some ⟨b1, 0, none⟩) 5 5 _ bs _ (by (try simp only [List.length_set, List.length_append, List.length_map, List.length_replicate, List.length_cons, List.length_nil, List.length_take, List.length_drop, List.length_range]) <;> omega) (Own.slI ho1 ho1.lt) (by first | rfl | omega) (by omega) THd1ai) ?_
 rintro _ w3 ⟨rfl, hc1⟩
 replace hS := Step.trans hS (Step.weak hc1)
 replace ht := ht.no hc1
 replace ho1 := ho1.no hc1
 replace ho2 := ho2.no hc1
 refine VL_pure 3 [0, 3, 4, 6] [(0, .pointer (some ⟨b, 0, none⟩)), (3, .pointer (some ⟨b1, 0, none⟩)), (4, .pointer (some ⟨b2, 0, none⟩)), (6, .int .u8 (synB bs))] (by kernel_rfl) rfl ?_
 refine VL_end (by kernel_rfl) ?_
 refine VQ_next ?_
 refine VC_seq ?_
 refine VC_region ?_
 refine VL_pure 3 [0, 3, 4, 6, 17] [(0, .pointer (some ⟨b, 0, none⟩)), (3, .pointer (some ⟨b1, 0, none⟩)), (4, .pointer (some ⟨b2, 0, none⟩)), (6, .int .u8 (synB bs)), (17, .pointer (some ⟨b, 2, none⟩))] (by kernel_rfl) rfl ?_
 refine VL_load (d := 18) (t := 4) (a := ⟨b, 2, none⟩) (v := .bool cf) (by kernel_rfl) (by kernel_rfl) (Loads.own1 ht (by kernel_rfl) (by rfl)) ?_
 refine VL_pure 5 [0, 3, 4, 6, 7] [(0, .pointer (some ⟨b, 0, none⟩)), (3, .pointer (some ⟨b1, 0, none⟩)), (4, .pointer (some ⟨b2, 0, none⟩)), (6, .int .u8 (synB bs)), (7, .bool cf)] (by kernel_rfl) rfl ?_
 refine VL_end (by kernel_rfl) ?_
 refine VQ_next ?_
 refine VC_seq ?_
 refine VC_region ?_
 refine VL_pure 5 [0, 3, 4, 6, 7, 21, 23] [(0, .pointer (some ⟨b, 0, none⟩)), (3, .pointer (some ⟨b1, 0, none⟩)), (4, .pointer (some ⟨b2, 0, none⟩)), (6, .int .u8 (synB bs)), (7, .bool cf), (21, .bool ((synB bs) != 0)), (23, .pointer (some ⟨b, 2, none⟩))] (by kernel_rfl) rfl ?_
 refine VL_store (b := b) (o := 2) (vs := [.bool ((synB bs) != 0)]) (by kernel_rfl) (by kernel_rfl) ht (Nat.le_of_ble_eq_true (by kernel_rfl)) ?_
 intro w4 hw1
 replace hS := Step.trans hS (Step.mono hw1.step THd1aa)
 replace ho1 := ho1.step hw1.step (show ¬ b1 = b by omega)
 replace ho2 := ho2.step hw1.step (show ¬ b2 = b by omega)
 have ho3 : Own w4 b #[.int .i64 r, .int .i64 d, .bool ((synB bs) != 0)] 72 := Own.cast hw1.own (by kernel_rfl)
 refine VL_end (by kernel_rfl) ?_
 refine VQ_next ?_
 refine VC_seq ?_
 refine VC_seq ?_
 refine VC_region ?_
 refine VL_pure 2 [0, 3, 4, 6, 7, 25] [(0, .pointer (some ⟨b, 0, none⟩)), (3, .pointer (some ⟨b1, 0, none⟩)), (4, .pointer (some ⟨b2, 0, none⟩)), (6, .int .u8 (synB bs)), (7, .bool cf), (25, .bool ((synB bs) == 0))] (by kernel_rfl) rfl ?_
 refine VL_end (by kernel_rfl) ?_
 refine VQ_next ?_
 refine VC_eq (synB bs) 0 (by kernel_rfl) (fun h1 => ?_) (fun h1 => ?_)
 ·refine VC_seq ?_
  refine VC_region ?_
  refine VL_pure 2 [4, 27] [(4, .pointer (some ⟨b2, 0, none⟩)), (27, .pointer (some ⟨b1, 0, none⟩))] (by kernel_rfl) rfl ?_
  refine VL_load (d := 28) (t := 151) (a := ⟨b1, 0, none⟩) (v := .agg (iA .u8 (bs.take 4))) (by kernel_rfl) (by kernel_rfl) (Loads.slArr (Own.slI ho1 ho1.lt) (by kernel_rfl) THd1af) ?_
  refine VL_storeA (b := b2) (sz := 4) (k := .u8) (bs := bs.take 4) (by kernel_rfl) (by kernel_rfl) THd1ab ho2 (iA_size.trans (by (try simp only [List.length_set, List.length_append, List.length_map, List.length_replicate, List.length_cons, List.length_nil, List.length_take, List.length_drop, List.length_range]) <;> omega)) ?_
  intro w5 hw2
  replace hS := Step.transNew hS hw2.step (fun _ _ _ => by omega)
  replace ho3 := ho3.step hw2.step (show ¬ b = b2 by omega)
  have ho4 := hw2.own
  refine VL_pure 5 [4, 5] [(4, .pointer (some ⟨b2, 0, none⟩)), (5, .bool true)] (by kernel_rfl) rfl ?_
  refine VL_end (by kernel_rfl) ?_
  refine VQ_next ?_
  refine VC_ret ?_
  refine VQ_then_ret ?_
  refine VQ_retC1T1 (T := 151) (.agg (iA .u8 (bs.take 4))) (.bool true) (.inr rfl) rfl rfl rfl (Loads.arr (N := 4) ho4 (by kernel_rfl) THd1ab) ?_
  exact ⟨by unfold takeH takeO turn1; simp [*, if_true, if_false, true_or, or_true, false_or, or_false, Bool.false_eq_true, ite_true, ite_false, ne_eq, not_false_eq_true, reduceCtorEq], ⟨_, _, Own.cast ho3 THd1ah⟩, hS⟩
 ·refine VC_skip ?_
  refine VQ_next ?_
  refine VC_seq ?_
  refine VC_region ?_
  refine VL_pure 1 [0, 3, 4, 7, 30] [(0, .pointer (some ⟨b, 0, none⟩)), (3, .pointer (some ⟨b1, 0, none⟩)), (4, .pointer (some ⟨b2, 0, none⟩)), (7, .bool cf), (30, .int .u8 (synB bs))] (by kernel_rfl) rfl ?_
  refine VL_call (d := 31) (f := 128) (args := #[.int .u8 (synB bs)]) (by kernel_rfl) (by kernel_rfl) (by kernel_rfl) Tryz.call128 (bit_any (synB bs) _) ?_
  rintro _ w6 ⟨rfl, hc2⟩
  replace hS := Step.trans hS (Step.weak hc2)
  replace ho1 := ho1.no hc2
  replace ho2 := ho2.no hc2
  replace ho3 := ho3.no hc2
  have hbv := bitV_lt (synB bs)
  refine VL_pure 7 [0, 3, 4, 7, 8, 9] [(0, .pointer (some ⟨b, 0, none⟩)), (3, .pointer (some ⟨b1, 0, none⟩)), (4, .pointer (some ⟨b2, 0, none⟩)), (7, .bool cf), (8, .int .i64 ((bitV (synB bs) : Nat) : Int)), (9, .bool (bitOk (synB bs)))] (by kernel_rfl) rfl ?_
  refine VL_end (by kernel_rfl) ?_
  refine VQ_next ?_
  refine VC_seq ?_
  refine VC_seq ?_
  refine VC_region ?_
  refine VL_pure 2 [0, 3, 4, 8, 9, 35] [(0, .pointer (some ⟨b, 0, none⟩)), (3, .pointer (some ⟨b1, 0, none⟩)), (4, .pointer (some ⟨b2, 0, none⟩)), (8, .int .i64 ((bitV (synB bs) : Nat) : Int)), (9, .bool (bitOk (synB bs))), (35, .bool cf)] (by kernel_rfl) rfl ?_
  refine VL_join cf (fun bV => [(0, .pointer (some ⟨b, 0, none⟩)), (3, .pointer (some ⟨b1, 0, none⟩)), (4, .pointer (some ⟨b2, 0, none⟩)), (8, .int .i64 ((bitV (synB bs) : Nat) : Int)), (9, .bool (bitOk (synB bs))), (35, .bool bV)]) 5 [(0, .pointer (some ⟨b, 0, none⟩)), (3, .pointer (some ⟨b1, 0, none⟩)), (4, .pointer (some ⟨b2, 0, none⟩)), (8, .int .i64 ((bitV (synB bs) : Nat) : Int)), (38, .bool (cf || (!(bitOk (synB bs)))))] rfl (fun hg1 J1 => ?_) (fun hg1 J1 => ?_) ?_
  ·refine VL_pure 5 [0, 3, 4, 8, 38] [(0, .pointer (some ⟨b, 0, none⟩)), (3, .pointer (some ⟨b1, 0, none⟩)), (4, .pointer (some ⟨b2, 0, none⟩)), (8, .int .i64 ((bitV (synB bs) : Nat) : Int)), (38, .bool true)] (by kernel_rfl) rfl ?_
   exact VL_eq _ THd1ag J1
  ·refine VL_pure 5 [0, 3, 4, 8, 38] [(0, .pointer (some ⟨b, 0, none⟩)), (3, .pointer (some ⟨b1, 0, none⟩)), (4, .pointer (some ⟨b2, 0, none⟩)), (8, .int .i64 ((bitV (synB bs) : Nat) : Int)), (38, .bool (!(bitOk (synB bs))))] (by kernel_rfl) rfl ?_
   exact VL_eq _ THd1ag J1
  refine VL_end (by kernel_rfl) ?_
  refine VQ_next ?_
  refine VC_cond (cf || (!(bitOk (synB bs)))) (by kernel_rfl) (fun h2 => ?_) (fun h2 => ?_)
  ·try simp only [Bool.and_eq_true, Bool.or_eq_true, decide_eq_true_eq, Bool.not_eq_true', decide_eq_false_iff_not, Bool.and_eq_false_iff, Bool.or_eq_false_iff, beq_iff_eq, bne_iff_ne, beq_eq_false_iff_ne, bne_eq_false_iff_eq, Bool.not_eq_eq_eq_not, Bool.not_true, Bool.not_false] at h2
   refine VC_seq ?_
   refine VC_region ?_
   refine VL_pure 3 [4, 41] [(4, .pointer (some ⟨b2, 0, none⟩)), (41, .pointer (some ⟨b, 0, none⟩))] (by kernel_rfl) rfl ?_
   refine VL_call (d := 42) (f := 129) (args := #[.pointer (some ⟨b, 0, none⟩)]) (by kernel_rfl) (by kernel_rfl) (by kernel_rfl) Tryz.call129 (rcdrop b r d ((synB bs) != 0) _ ho3) ?_
   rintro _ w7 ⟨rfl, ⟨dd1, ho5⟩, hc3⟩
   replace hS := Step.trans hS (Step.mono hc3 THd1aa)
   replace ho2 := ho2.step hc3 (show ¬ b2 = b by omega)
   refine VL_pure 6 [4, 43, 44] [(4, .pointer (some ⟨b2, 0, none⟩)), (43, .agg (iA .u8 ([0, 0, 0, 0]))), (44, .bool false)] (by kernel_rfl) rfl ?_
   refine VL_storeA (b := b2) (sz := 4) (k := .u8) (bs := [0, 0, 0, 0]) (by kernel_rfl) (by kernel_rfl) THd1ab ho2 (iA_size.trans (by (try simp only [List.length_set, List.length_append, List.length_map, List.length_replicate, List.length_cons, List.length_nil, List.length_take, List.length_drop, List.length_range]) <;> omega)) ?_
   intro w8 hw3
   replace hS := Step.transNew hS hw3.step (fun _ _ _ => by omega)
   replace ho5 := ho5.step hw3.step (show ¬ b = b2 by omega)
   have ho6 := hw3.own
   refine VL_pure 8 [4, 5] [(4, .pointer (some ⟨b2, 0, none⟩)), (5, .bool false)] (by kernel_rfl) rfl ?_
   refine VL_end (by kernel_rfl) ?_
   refine VQ_next ?_
   refine VC_ret ?_
   refine VQ_then_ret ?_
   refine VQ_retC1T1 (T := 151) (.agg (iA .u8 ([0, 0, 0, 0]))) (.bool false) (.inr rfl) rfl rfl rfl (Loads.arr (N := 4) ho6 (by kernel_rfl) THd1ab) ?_
   exact ⟨by unfold takeH takeO turn1; simp [*, if_true, if_false, true_or, or_true, false_or, or_false, Bool.false_eq_true, ite_true, ite_false, ne_eq, not_false_eq_true, reduceCtorEq], ⟨_, _, Own.cast ho5 THd1ah⟩, hS⟩
  ·try simp only [Bool.and_eq_true, Bool.or_eq_true, decide_eq_true_eq, Bool.not_eq_true', decide_eq_false_iff_not, Bool.and_eq_false_iff, Bool.or_eq_false_iff, beq_iff_eq, bne_iff_ne, beq_eq_false_iff_ne, bne_eq_false_iff_eq, Bool.not_eq_eq_eq_not, Bool.not_true, Bool.not_false] at h2
   refine VC_skip ?_
   refine VQ_next ?_
   refine VC_seq ?_
   refine VC_region ?_
   refine VL_pure 4 [3, 4, 8, 45, 48] [(3, .pointer (some ⟨b1, 0, none⟩)), (4, .pointer (some ⟨b2, 0, none⟩)), (8, .int .i64 ((bitV (synB bs) : Nat) : Int)), (45, .pointer (some ⟨b, 0, none⟩)), (48, .pointer (some ⟨b, 0, none⟩))] (by kernel_rfl) rfl ?_
   refine VL_load (d := 49) (t := 3) (a := ⟨b, 0, none⟩) (v := .int .i64 r) (by kernel_rfl) (by kernel_rfl) (Loads.own1 ho3 (by kernel_rfl) (by rfl)) ?_
   refine VL_pure 9 [3, 4, 8, 50, 53] [(3, .pointer (some ⟨b1, 0, none⟩)), (4, .pointer (some ⟨b2, 0, none⟩)), (8, .int .i64 ((bitV (synB bs) : Nat) : Int)), (50, .int .i64 (IntKind.wrap .i64 (r + 1))), (53, .pointer (some ⟨b, 0, none⟩))] (by kernel_rfl) rfl ?_
   refine VL_store (b := b) (o := 0) (vs := [.int .i64 (IntKind.wrap .i64 (r + 1))]) (by kernel_rfl) (by kernel_rfl) ho3 (Nat.le_of_ble_eq_true (by kernel_rfl)) ?_
   intro w9 hw4
   replace hS := Step.trans hS (Step.mono hw4.step THd1aa)
   replace ho1 := ho1.step hw4.step (show ¬ b1 = b by omega)
   replace ho2 := ho2.step hw4.step (show ¬ b2 = b by omega)
   have ho7 : Own w9 b #[.int .i64 (IntKind.wrap .i64 (r + 1)), .int .i64 d, .bool ((synB bs) != 0)] 72 := Own.cast hw4.own (by kernel_rfl)
   have hzhw4 := hw4.same
   refine VL_end (by kernel_rfl) ?_
   refine VQ_next ?_
   refine VC_seq ?_
   have hs1 := drew_step w9
   have hs1z : w9.heap.size = w9.drew.heap.size := rfl
   refine VC_text [[], [0], [0, 1], [0, 1, 2], [], [4], [4, 5], [0, 1, 2, 3, 4, 5, 6], [0, 1, 2, 3, 4, 5, 6, 7], [0, 1, 2, 3, 4, 5, 6, 7, 8]] 7 (fun x y => Step (fun k => w9.heap.size ≤ k) x y) [] [0, 1, 2, 3, 4, 5, 6] (by kernel_rfl) (by kernel_rfl) (by kernel_rfl) (by kernel_rfl) (fun x => Step.refl _ x) (fun h k => Step.trans h k) Step.weak ?_
   have hzl17 := ho2.lt
   generalize w9.drew = w10 at hs1 hs1z ⊢
   replace hS := Step.trans hS (Step.weak hs1)
   replace ho1 := ho1.no hs1
   replace ho2 := ho2.no hs1
   replace ho7 := ho7.no hs1
   refine VT_pures 2 (kn' := [(1, .int .i64 (IntKind.wrap .i64 (((bitV (synB bs) : Nat) : Int).tdiv 8))), (0, .int .i64 ((bitV (synB bs) : Nat) : Int))]) (by kernel_rfl) ?_
   refine VT_index (d := 56) (b := b1) (o := 0) (len := 5) (sz := 1) (mm := (IntKind.wrap .i64 (((bitV (synB bs) : Nat) : Int).tdiv 8))) (by kernel_rfl) (by kernel_rfl) ((bitV (synB bs)) / 8) THd1ae (by omega) ((bitV (synB bs)) / 8) (by omega) ?_
   refine VT_load (d := 57) (t := 5) (a := ⟨b1, ((bitV (synB bs)) / 8), none⟩) (v := .int .u8 (bs.getD ((bitV (synB bs)) / 8) 0)) (by kernel_rfl) (by kernel_rfl) ?_ ?_
   ·intro w11 hr1
    replace ho1 := ho1.step hr1 (by (try simp only); omega)
    exact (Loads.arr1 ho1 (by kernel_rfl) (by (try simp only [List.length_set, List.length_append, List.length_map, List.length_replicate, List.length_cons, List.length_nil, List.length_take, List.length_drop, List.length_range]) <;> omega))
   refine VT_pures 2 (kn' := [(5, .int .i64 (((bitV (synB bs) : Nat) : Int).tmod 8)), (4, .int .i64 ((bitV (synB bs) : Nat) : Int)), (3, .int .u8 (bs.getD ((bitV (synB bs)) / 8) 0)), (2, .pointer (some ⟨b1, ((bitV (synB bs)) / 8), none⟩)), (1, .int .i64 (IntKind.wrap .i64 (((bitV (synB bs) : Nat) : Int).tdiv 8))), (0, .int .i64 ((bitV (synB bs) : Nat) : Int))]) (by kernel_rfl) ?_
   refine VT_shr (d := 60) (kd := .u8) (x := 128) (y := (((bitV (synB bs) : Nat) : Int).tmod 8)) (by kernel_rfl) (by kernel_rfl) ((bitV (synB bs)) % 8) (tmod_nat (bitV (synB bs)) 8) (by simp only [IntKind.bits]; omega) ?_
   refine VT_end ?_
   intro w12 hs2
   replace hS := Step.trans hS (Step.weak hs2)
   replace ho1 := ho1.no hs2
   replace ho2 := ho2.no hs2
   replace ho7 := ho7.no hs2
   refine VL_keep [3, 4, 55, 57, 60] [(3, .pointer (some ⟨b1, 0, none⟩)), (4, .pointer (some ⟨b2, 0, none⟩)), (55, .int .i64 (IntKind.wrap .i64 (((bitV (synB bs) : Nat) : Int).tdiv 8))), (57, .int .u8 (bs.getD ((bitV (synB bs)) / 8) 0)), (60, .int .u8 ((128 : Int).fdiv (2 ^ ((bitV (synB bs)) % 8))))] (by kernel_rfl) ?_
   refine VL_pure 8 [3, 4, 55, 61] [(3, .pointer (some ⟨b1, 0, none⟩)), (4, .pointer (some ⟨b2, 0, none⟩)), (55, .int .i64 (IntKind.wrap .i64 (((bitV (synB bs) : Nat) : Int).tdiv 8))), (61, .int .u8 (bXor .u8 (bs.getD ((bitV (synB bs)) / 8) 0) ((128 : Int).fdiv (2 ^ ((bitV (synB bs)) % 8)))))] (by kernel_rfl) rfl ?_
   refine VL_index (d := 62) (b := b1) (o := 0) (len := 5) (sz := 1) (m := (IntKind.wrap .i64 (((bitV (synB bs) : Nat) : Int).tdiv 8))) (by kernel_rfl) (by kernel_rfl) ((bitV (synB bs)) / 8) THd1ae (by omega) ((bitV (synB bs)) / 8) (by omega) ?_
   refine VL_store (b := b1) (o := ((bitV (synB bs)) / 8)) (vs := [.int .u8 (bXor .u8 (bs.getD ((bitV (synB bs)) / 8) 0) ((128 : Int).fdiv (2 ^ ((bitV (synB bs)) % 8))))]) (by kernel_rfl) (by kernel_rfl) ho1 THd1ac ?_
   intro w13 hw5
   replace hS := Step.transNew hS hw5.step (fun _ _ _ => by omega)
   replace ho2 := ho2.step hw5.step (show ¬ b2 = b1 by omega)
   replace ho7 := ho7.step hw5.step (show ¬ b = b1 by omega)
   have ho8 := Own.cast hw5.own (iA_set ((bitV (synB bs)) / 8) (bXor .u8 (bs.getD ((bitV (synB bs)) / 8) 0) ((128 : Int).fdiv (2 ^ ((bitV (synB bs)) % 8)))) (by (try simp only [List.length_set, List.length_append, List.length_map, List.length_replicate, List.length_cons, List.length_nil, List.length_take, List.length_drop, List.length_range]) <;> omega))
   refine VL_end (by kernel_rfl) ?_
   refine VQ_next ?_
   refine VC_seq ?_
   refine VC_region ?_
   refine VL_pure 2 [4, 64] [(4, .pointer (some ⟨b2, 0, none⟩)), (64, .pointer (some ⟨b1, 0, none⟩))] (by kernel_rfl) rfl ?_
   refine VL_load (d := 65) (t := 151) (a := ⟨b1, 0, none⟩) (v := .agg (iA .u8 ((bs.set ((bitV (synB bs)) / 8) (bXor .u8 (bs.getD ((bitV (synB bs)) / 8) 0) ((128 : Int).fdiv (2 ^ ((bitV (synB bs)) % 8))))).take 4))) (by kernel_rfl) (by kernel_rfl) (Loads.slArr (Own.slI ho8 ho8.lt) (by kernel_rfl) THd1ad) ?_
   refine VL_storeA (b := b2) (sz := 4) (k := .u8) (bs := (bs.set ((bitV (synB bs)) / 8) (bXor .u8 (bs.getD ((bitV (synB bs)) / 8) 0) ((128 : Int).fdiv (2 ^ ((bitV (synB bs)) % 8))))).take 4) (by kernel_rfl) (by kernel_rfl) THd1ab ho2 (iA_size.trans (by (try simp only [List.length_set, List.length_append, List.length_map, List.length_replicate, List.length_cons, List.length_nil, List.length_take, List.length_drop, List.length_range]) <;> omega)) ?_
   intro w14 hw6
   replace hS := Step.transNew hS hw6.step (fun _ _ _ => by omega)
   replace ho7 := ho7.step hw6.step (show ¬ b = b2 by omega)
   have ho9 := hw6.own
   refine VL_pure 5 [4, 5] [(4, .pointer (some ⟨b2, 0, none⟩)), (5, .bool true)] (by kernel_rfl) rfl ?_
   refine VL_end (by kernel_rfl) ?_
   refine VQ_next ?_
   refine VC_ret ?_
   refine VQ_retC1T1 (T := 151) (.agg (iA .u8 ((bs.set ((bitV (synB bs)) / 8) (bXor .u8 (bs.getD ((bitV (synB bs)) / 8) 0) ((128 : Int).fdiv (2 ^ ((bitV (synB bs)) % 8))))).take 4))) (.bool true) (.inr rfl) rfl rfl rfl (Loads.arr (N := 4) ho9 (by kernel_rfl) THd1ab) ?_
   exact ⟨by unfold takeH takeO turn1; simp [*, if_true, if_false, true_or, or_true, false_or, or_false, Bool.false_eq_true, ite_true, ite_false, ne_eq, not_false_eq_true, reduceCtorEq], ⟨_, _, Own.cast ho7 THd1ah⟩, hS⟩

theorem lkdrop (b : Nat) (r d : Int) (cf : Bool) (gp : Nat) (dn : Bool) (w : World) (ht : Own w b #[.int .i64 r, .int .i64 d, .bool cf, .pointer (some ⟨gp, 0, none⟩), .bool dn] 134) :
  CV Tryz.prog 129 #[.pointer (some ⟨b, 0, none⟩)] w (fun x w1 => x = .tuple #[.agg (iA .u8 [0, 0, 0, 0]), .bool false] ∧ (∃ d', Own w1 b #[.int .i64 r, .int .i64 d', .bool cf, .pointer (some ⟨gp, 0, none⟩), .bool dn] 134) ∧ Step (Just b) w w1) := by
 have hS : Step (Just b) w w := Step.refl _ _
 have hbl := ht.lt
 refine CV_enter Tryz.f129 _ 12 [(0, .pointer (some ⟨b, 0, none⟩))] Tryz.func129 rfl rfl (by kernel_rfl) rfl ?_
 refine VC_seq ?_
 refine VC_region ?_
 refine VL_box (d := 2) (t := 151) (c := iA .u8 (List.replicate 4 0)) (by kernel_rfl) (by kernel_rfl) ?_
 intro b1 w1 hn1
 replace hS := Step.trans hS (Step.weak (hn1.step No))
 replace ht := ht.no (hn1.step No)
 have ho1 := hn1.own
 have hzhn1 := hn1.size
 have hqhn1 := hn1.eqb
 refine VL_pure 2 [0, 2] [(0, .pointer (some ⟨b, 0, none⟩)), (2, .pointer (some ⟨b1, 0, none⟩))] (by kernel_rfl) rfl ?_
 refine VL_end (by kernel_rfl) ?_
 refine VQ_next ?_
 refine VC_seq ?_
 refine VC_region ?_
 refine VL_pure 3 [2, 4, 6] [(2, .pointer (some ⟨b1, 0, none⟩)), (4, .pointer (some ⟨b, 0, none⟩)), (6, .pointer (some ⟨b, 1, none⟩))] (by kernel_rfl) rfl ?_
 refine VL_load (d := 7) (t := 3) (a := ⟨b, 1, none⟩) (v := .int .i64 d) (by kernel_rfl) (by kernel_rfl) (Loads.own1 ht (by kernel_rfl) (by rfl)) ?_
 refine VL_pure 7 [2, 8, 10] [(2, .pointer (some ⟨b1, 0, none⟩)), (8, .int .i64 (IntKind.wrap .i64 (d + 1))), (10, .pointer (some ⟨b, 1, none⟩))] (by kernel_rfl) rfl ?_
 refine VL_store (b := b) (o := 1) (vs := [.int .i64 (IntKind.wrap .i64 (d + 1))]) (by kernel_rfl) (by kernel_rfl) ht (Nat.le_of_ble_eq_true (by kernel_rfl)) ?_
 intro w2 hw1
 replace hS := Step.trans hS (Step.mono hw1.step THd1aa)
 replace ho1 := ho1.step hw1.step (show ¬ b1 = b by omega)
 have ho2 : Own w2 b #[.int .i64 r, .int .i64 (IntKind.wrap .i64 (d + 1)), .bool cf, .pointer (some ⟨gp, 0, none⟩), .bool dn] 134 := Own.cast hw1.own (by kernel_rfl)
 have hzhw1 := hw1.same
 refine VL_end (by kernel_rfl) ?_
 refine VQ_next ?_
 refine VC_seq ?_
 refine VC_region ?_
 refine VL_pure 1 [2, 11] [(2, .pointer (some ⟨b1, 0, none⟩)), (11, .agg #[.int .u8 0, .int .u8 0, .int .u8 0, .int .u8 0])] (by kernel_rfl) rfl ?_
 refine VL_storeA (b := b1) (sz := 4) (k := .u8) (bs := List.replicate 4 0) (by kernel_rfl) (by kernel_rfl) (by (try simp only [List.length_set, List.length_append, List.length_map, List.length_replicate, List.length_cons, List.length_nil, List.length_take, List.length_drop, List.length_range]) <;> omega) ho1 (iA_size.trans (by (try simp only [List.length_set, List.length_append, List.length_map, List.length_replicate, List.length_cons, List.length_nil, List.length_take, List.length_drop, List.length_range]) <;> omega)) ?_
 intro w3 hw2
 replace hS := Step.transNew hS hw2.step (fun _ _ _ => by omega)
 replace ho2 := ho2.step hw2.step (show ¬ b = b1 by omega)
 have ho3 := hw2.own
 refine VL_pure 3 [2, 3] [(2, .pointer (some ⟨b1, 0, none⟩)), (3, .bool false)] (by kernel_rfl) rfl ?_
 refine VL_end (by kernel_rfl) ?_
 refine VQ_next ?_
 refine VC_ret ?_
 refine VQ_retC1T1 (T := 151) (.agg (iA .u8 (List.replicate 4 0))) (.bool false) (.inr rfl) rfl rfl rfl (Loads.arr (N := 4) ho3 (by kernel_rfl) (by (try simp only [List.length_set, List.length_append, List.length_map, List.length_replicate, List.length_cons, List.length_nil, List.length_take, List.length_drop, List.length_range]) <;> omega)) ?_
 exact ⟨rfl, ⟨_, ho2⟩, hS⟩

theorem lktake (b : Nat) (r d : Int) (cf : Bool) (gp : Nat) (dn : Bool) (bs : List Int) (w : World) (hn : bs.length = 5) (ht : Own w b #[.int .i64 r, .int .i64 d, .bool cf, .pointer (some ⟨gp, 0, none⟩), .bool dn] 134) :
  CV Tryz.prog 72 #[.pointer (some ⟨b, 0, none⟩), .agg (iA .u8 bs)] w (fun x w1 => x = .tuple #[.agg (iA .u8 (takeH cf bs)), .bool (takeO cf bs)] ∧ (∃ r' d', Own w1 b #[.int .i64 r', .int .i64 d', .bool (takeC bs), .pointer (some ⟨gp, 0, none⟩), .bool dn] 134) ∧ Step (Just b) w w1) := by
 have hS : Step (Just b) w w := Step.refl _ _
 have hbl := ht.lt
 refine CV_enter Tryz.f72 _ 66 [(0, .pointer (some ⟨b, 0, none⟩)), (1, .agg (iA .u8 bs))] Tryz.func72 rfl rfl (by kernel_rfl) rfl ?_
 refine VC_seq ?_
 refine VC_region ?_
 refine VL_box (d := 3) (t := 149) (c := iA .u8 bs) (by kernel_rfl) (by kernel_rfl) ?_
 intro b1 w1 hn1
 replace hS := Step.trans hS (Step.weak (hn1.step No))
 replace ht := ht.no (hn1.step No)
 have ho1 := hn1.own
 have hzhn1 := hn1.size
 have hqhn1 := hn1.eqb
 refine VL_box (d := 4) (t := 151) (c := iA .u8 (List.replicate 4 0)) (by kernel_rfl) (by kernel_rfl) ?_
 intro b2 w2 hn2
 replace hS := Step.trans hS (Step.weak (hn2.step No))
 replace ht := ht.no (hn2.step No)
 replace ho1 := ho1.no (hn2.step No)
 have ho2 := hn2.own
 have hzhn2 := hn2.size
 have hqhn2 := hn2.eqb
 refine VL_pure 3 [0, 3, 4] [(0, .pointer (some ⟨b, 0, none⟩)), (3, .pointer (some ⟨b1, 0, none⟩)), (4, .pointer (some ⟨b2, 0, none⟩))] (by kernel_rfl) rfl ?_
 refine VL_end (by kernel_rfl) ?_
 refine VQ_next ?_
 refine VC_seq ?_
 refine VC_seq ?_
 refine VC_region ?_
 refine VL_pure 2 [0, 3, 4, 11] [(0, .pointer (some ⟨b, 0, none⟩)), (3, .pointer (some ⟨b1, 0, none⟩)), (4, .pointer (some ⟨b2, 0, none⟩)), (11, .bool false)] (by kernel_rfl) rfl ?_
 refine VL_end (by kernel_rfl) ?_
 refine VQ_next ?_
 refine VC_false (by kernel_rfl) ?_
 refine VC_skip ?_
 refine VQ_next ?_
 refine VC_seq ?_
 refine VC_region ?_
 refine VL_pure 1 [0, 3, 4, 13] [(0, .pointer (some ⟨b, 0, none⟩)), (3, .pointer (some ⟨b1, 0, none⟩)), (4, .pointer (some ⟨b2, 0, none⟩)), (13, .slice (some ⟨b1, 0, none⟩) 5 5)] (by kernel_rfl) rfl ?_
 refine VL_call (d := 14) (f := 127) (args := #[.slice (some ⟨b1, 0, none⟩) 5 5]) (by kernel_rfl) (by kernel_rfl) (by kernel_rfl) Tryz.call127 (syn_any (some ⟨b1, 0, none⟩) 5 5 _ bs _ (by (try simp only [List.length_set, List.length_append, List.length_map, List.length_replicate, List.length_cons, List.length_nil, List.length_take, List.length_drop, List.length_range]) <;> omega) (Own.slI ho1 ho1.lt) (by first | rfl | omega) (by omega) THd1ai) ?_
 rintro _ w3 ⟨rfl, hc1⟩
 replace hS := Step.trans hS (Step.weak hc1)
 replace ht := ht.no hc1
 replace ho1 := ho1.no hc1
 replace ho2 := ho2.no hc1
 refine VL_pure 3 [0, 3, 4, 6] [(0, .pointer (some ⟨b, 0, none⟩)), (3, .pointer (some ⟨b1, 0, none⟩)), (4, .pointer (some ⟨b2, 0, none⟩)), (6, .int .u8 (synB bs))] (by kernel_rfl) rfl ?_
 refine VL_end (by kernel_rfl) ?_
 refine VQ_next ?_
 refine VC_seq ?_
 refine VC_region ?_
 refine VL_pure 3 [0, 3, 4, 6, 17] [(0, .pointer (some ⟨b, 0, none⟩)), (3, .pointer (some ⟨b1, 0, none⟩)), (4, .pointer (some ⟨b2, 0, none⟩)), (6, .int .u8 (synB bs)), (17, .pointer (some ⟨b, 2, none⟩))] (by kernel_rfl) rfl ?_
 refine VL_load (d := 18) (t := 4) (a := ⟨b, 2, none⟩) (v := .bool cf) (by kernel_rfl) (by kernel_rfl) (Loads.own1 ht (by kernel_rfl) (by rfl)) ?_
 refine VL_pure 5 [0, 3, 4, 6, 7] [(0, .pointer (some ⟨b, 0, none⟩)), (3, .pointer (some ⟨b1, 0, none⟩)), (4, .pointer (some ⟨b2, 0, none⟩)), (6, .int .u8 (synB bs)), (7, .bool cf)] (by kernel_rfl) rfl ?_
 refine VL_end (by kernel_rfl) ?_
 refine VQ_next ?_
 refine VC_seq ?_
 refine VC_region ?_
 refine VL_pure 5 [0, 3, 4, 6, 7, 21, 23] [(0, .pointer (some ⟨b, 0, none⟩)), (3, .pointer (some ⟨b1, 0, none⟩)), (4, .pointer (some ⟨b2, 0, none⟩)), (6, .int .u8 (synB bs)), (7, .bool cf), (21, .bool ((synB bs) != 0)), (23, .pointer (some ⟨b, 2, none⟩))] (by kernel_rfl) rfl ?_
 refine VL_store (b := b) (o := 2) (vs := [.bool ((synB bs) != 0)]) (by kernel_rfl) (by kernel_rfl) ht (Nat.le_of_ble_eq_true (by kernel_rfl)) ?_
 intro w4 hw1
 replace hS := Step.trans hS (Step.mono hw1.step THd1aa)
 replace ho1 := ho1.step hw1.step (show ¬ b1 = b by omega)
 replace ho2 := ho2.step hw1.step (show ¬ b2 = b by omega)
 have ho3 : Own w4 b #[.int .i64 r, .int .i64 d, .bool ((synB bs) != 0), .pointer (some ⟨gp, 0, none⟩), .bool dn] 134 := Own.cast hw1.own (by kernel_rfl)
 refine VL_end (by kernel_rfl) ?_
 refine VQ_next ?_
 refine VC_seq ?_
 refine VC_seq ?_
 refine VC_region ?_
 refine VL_pure 2 [0, 3, 4, 6, 7, 25] [(0, .pointer (some ⟨b, 0, none⟩)), (3, .pointer (some ⟨b1, 0, none⟩)), (4, .pointer (some ⟨b2, 0, none⟩)), (6, .int .u8 (synB bs)), (7, .bool cf), (25, .bool ((synB bs) == 0))] (by kernel_rfl) rfl ?_
 refine VL_end (by kernel_rfl) ?_
 refine VQ_next ?_
 refine VC_eq (synB bs) 0 (by kernel_rfl) (fun h1 => ?_) (fun h1 => ?_)
 ·refine VC_seq ?_
  refine VC_region ?_
  refine VL_pure 2 [4, 27] [(4, .pointer (some ⟨b2, 0, none⟩)), (27, .pointer (some ⟨b1, 0, none⟩))] (by kernel_rfl) rfl ?_
  refine VL_load (d := 28) (t := 151) (a := ⟨b1, 0, none⟩) (v := .agg (iA .u8 (bs.take 4))) (by kernel_rfl) (by kernel_rfl) (Loads.slArr (Own.slI ho1 ho1.lt) (by kernel_rfl) THd1af) ?_
  refine VL_storeA (b := b2) (sz := 4) (k := .u8) (bs := bs.take 4) (by kernel_rfl) (by kernel_rfl) THd1ab ho2 (iA_size.trans (by (try simp only [List.length_set, List.length_append, List.length_map, List.length_replicate, List.length_cons, List.length_nil, List.length_take, List.length_drop, List.length_range]) <;> omega)) ?_
  intro w5 hw2
  replace hS := Step.transNew hS hw2.step (fun _ _ _ => by omega)
  replace ho3 := ho3.step hw2.step (show ¬ b = b2 by omega)
  have ho4 := hw2.own
  refine VL_pure 5 [4, 5] [(4, .pointer (some ⟨b2, 0, none⟩)), (5, .bool true)] (by kernel_rfl) rfl ?_
  refine VL_end (by kernel_rfl) ?_
  refine VQ_next ?_
  refine VC_ret ?_
  refine VQ_then_ret ?_
  refine VQ_retC1T1 (T := 151) (.agg (iA .u8 (bs.take 4))) (.bool true) (.inr rfl) rfl rfl rfl (Loads.arr (N := 4) ho4 (by kernel_rfl) THd1ab) ?_
  exact ⟨by unfold takeH takeO turn1; simp [*, if_true, if_false, true_or, or_true, false_or, or_false, Bool.false_eq_true, ite_true, ite_false, ne_eq, not_false_eq_true, reduceCtorEq], ⟨_, _, Own.cast ho3 THd1ah⟩, hS⟩
 ·refine VC_skip ?_
  refine VQ_next ?_
  refine VC_seq ?_
  refine VC_region ?_
  refine VL_pure 1 [0, 3, 4, 7, 30] [(0, .pointer (some ⟨b, 0, none⟩)), (3, .pointer (some ⟨b1, 0, none⟩)), (4, .pointer (some ⟨b2, 0, none⟩)), (7, .bool cf), (30, .int .u8 (synB bs))] (by kernel_rfl) rfl ?_
  refine VL_call (d := 31) (f := 128) (args := #[.int .u8 (synB bs)]) (by kernel_rfl) (by kernel_rfl) (by kernel_rfl) Tryz.call128 (bit_any (synB bs) _) ?_
  rintro _ w6 ⟨rfl, hc2⟩
  replace hS := Step.trans hS (Step.weak hc2)
  replace ho1 := ho1.no hc2
  replace ho2 := ho2.no hc2
  replace ho3 := ho3.no hc2
  have hbv := bitV_lt (synB bs)
  refine VL_pure 7 [0, 3, 4, 7, 8, 9] [(0, .pointer (some ⟨b, 0, none⟩)), (3, .pointer (some ⟨b1, 0, none⟩)), (4, .pointer (some ⟨b2, 0, none⟩)), (7, .bool cf), (8, .int .i64 ((bitV (synB bs) : Nat) : Int)), (9, .bool (bitOk (synB bs)))] (by kernel_rfl) rfl ?_
  refine VL_end (by kernel_rfl) ?_
  refine VQ_next ?_
  refine VC_seq ?_
  refine VC_seq ?_
  refine VC_region ?_
  refine VL_pure 2 [0, 3, 4, 8, 9, 35] [(0, .pointer (some ⟨b, 0, none⟩)), (3, .pointer (some ⟨b1, 0, none⟩)), (4, .pointer (some ⟨b2, 0, none⟩)), (8, .int .i64 ((bitV (synB bs) : Nat) : Int)), (9, .bool (bitOk (synB bs))), (35, .bool cf)] (by kernel_rfl) rfl ?_
  refine VL_join cf (fun bV => [(0, .pointer (some ⟨b, 0, none⟩)), (3, .pointer (some ⟨b1, 0, none⟩)), (4, .pointer (some ⟨b2, 0, none⟩)), (8, .int .i64 ((bitV (synB bs) : Nat) : Int)), (9, .bool (bitOk (synB bs))), (35, .bool bV)]) 5 [(0, .pointer (some ⟨b, 0, none⟩)), (3, .pointer (some ⟨b1, 0, none⟩)), (4, .pointer (some ⟨b2, 0, none⟩)), (8, .int .i64 ((bitV (synB bs) : Nat) : Int)), (38, .bool (cf || (!(bitOk (synB bs)))))] rfl (fun hg1 J1 => ?_) (fun hg1 J1 => ?_) ?_
  ·refine VL_pure 5 [0, 3, 4, 8, 38] [(0, .pointer (some ⟨b, 0, none⟩)), (3, .pointer (some ⟨b1, 0, none⟩)), (4, .pointer (some ⟨b2, 0, none⟩)), (8, .int .i64 ((bitV (synB bs) : Nat) : Int)), (38, .bool true)] (by kernel_rfl) rfl ?_
   exact VL_eq _ THd1ag J1
  ·refine VL_pure 5 [0, 3, 4, 8, 38] [(0, .pointer (some ⟨b, 0, none⟩)), (3, .pointer (some ⟨b1, 0, none⟩)), (4, .pointer (some ⟨b2, 0, none⟩)), (8, .int .i64 ((bitV (synB bs) : Nat) : Int)), (38, .bool (!(bitOk (synB bs))))] (by kernel_rfl) rfl ?_
   exact VL_eq _ THd1ag J1
  refine VL_end (by kernel_rfl) ?_
  refine VQ_next ?_
  refine VC_cond (cf || (!(bitOk (synB bs)))) (by kernel_rfl) (fun h2 => ?_) (fun h2 => ?_)
  ·try simp only [Bool.and_eq_true, Bool.or_eq_true, decide_eq_true_eq, Bool.not_eq_true', decide_eq_false_iff_not, Bool.and_eq_false_iff, Bool.or_eq_false_iff, beq_iff_eq, bne_iff_ne, beq_eq_false_iff_ne, bne_eq_false_iff_eq, Bool.not_eq_eq_eq_not, Bool.not_true, Bool.not_false] at h2
   refine VC_seq ?_
   refine VC_region ?_
   refine VL_pure 3 [4, 41] [(4, .pointer (some ⟨b2, 0, none⟩)), (41, .pointer (some ⟨b, 0, none⟩))] (by kernel_rfl) rfl ?_
   refine VL_call (d := 42) (f := 129) (args := #[.pointer (some ⟨b, 0, none⟩)]) (by kernel_rfl) (by kernel_rfl) (by kernel_rfl) Tryz.call129 (lkdrop b r d ((synB bs) != 0) _ _ _ ho3) ?_
   rintro _ w7 ⟨rfl, ⟨dd1, ho5⟩, hc3⟩
   replace hS := Step.trans hS (Step.mono hc3 THd1aa)
   replace ho2 := ho2.step hc3 (show ¬ b2 = b by omega)
   refine VL_pure 6 [4, 43, 44] [(4, .pointer (some ⟨b2, 0, none⟩)), (43, .agg (iA .u8 ([0, 0, 0, 0]))), (44, .bool false)] (by kernel_rfl) rfl ?_
   refine VL_storeA (b := b2) (sz := 4) (k := .u8) (bs := [0, 0, 0, 0]) (by kernel_rfl) (by kernel_rfl) THd1ab ho2 (iA_size.trans (by (try simp only [List.length_set, List.length_append, List.length_map, List.length_replicate, List.length_cons, List.length_nil, List.length_take, List.length_drop, List.length_range]) <;> omega)) ?_
   intro w8 hw3
   replace hS := Step.transNew hS hw3.step (fun _ _ _ => by omega)
   replace ho5 := ho5.step hw3.step (show ¬ b = b2 by omega)
   have ho6 := hw3.own
   refine VL_pure 8 [4, 5] [(4, .pointer (some ⟨b2, 0, none⟩)), (5, .bool false)] (by kernel_rfl) rfl ?_
   refine VL_end (by kernel_rfl) ?_
   refine VQ_next ?_
   refine VC_ret ?_
   refine VQ_then_ret ?_
   refine VQ_retC1T1 (T := 151) (.agg (iA .u8 ([0, 0, 0, 0]))) (.bool false) (.inr rfl) rfl rfl rfl (Loads.arr (N := 4) ho6 (by kernel_rfl) THd1ab) ?_
   exact ⟨by unfold takeH takeO turn1; simp [*, if_true, if_false, true_or, or_true, false_or, or_false, Bool.false_eq_true, ite_true, ite_false, ne_eq, not_false_eq_true, reduceCtorEq], ⟨_, _, Own.cast ho5 THd1ah⟩, hS⟩
  ·try simp only [Bool.and_eq_true, Bool.or_eq_true, decide_eq_true_eq, Bool.not_eq_true', decide_eq_false_iff_not, Bool.and_eq_false_iff, Bool.or_eq_false_iff, beq_iff_eq, bne_iff_ne, beq_eq_false_iff_ne, bne_eq_false_iff_eq, Bool.not_eq_eq_eq_not, Bool.not_true, Bool.not_false] at h2
   refine VC_skip ?_
   refine VQ_next ?_
   refine VC_seq ?_
   refine VC_region ?_
   refine VL_pure 4 [3, 4, 8, 45, 48] [(3, .pointer (some ⟨b1, 0, none⟩)), (4, .pointer (some ⟨b2, 0, none⟩)), (8, .int .i64 ((bitV (synB bs) : Nat) : Int)), (45, .pointer (some ⟨b, 0, none⟩)), (48, .pointer (some ⟨b, 0, none⟩))] (by kernel_rfl) rfl ?_
   refine VL_load (d := 49) (t := 3) (a := ⟨b, 0, none⟩) (v := .int .i64 r) (by kernel_rfl) (by kernel_rfl) (Loads.own1 ho3 (by kernel_rfl) (by rfl)) ?_
   refine VL_pure 9 [3, 4, 8, 50, 53] [(3, .pointer (some ⟨b1, 0, none⟩)), (4, .pointer (some ⟨b2, 0, none⟩)), (8, .int .i64 ((bitV (synB bs) : Nat) : Int)), (50, .int .i64 (IntKind.wrap .i64 (r + 1))), (53, .pointer (some ⟨b, 0, none⟩))] (by kernel_rfl) rfl ?_
   refine VL_store (b := b) (o := 0) (vs := [.int .i64 (IntKind.wrap .i64 (r + 1))]) (by kernel_rfl) (by kernel_rfl) ho3 (Nat.le_of_ble_eq_true (by kernel_rfl)) ?_
   intro w9 hw4
   replace hS := Step.trans hS (Step.mono hw4.step THd1aa)
   replace ho1 := ho1.step hw4.step (show ¬ b1 = b by omega)
   replace ho2 := ho2.step hw4.step (show ¬ b2 = b by omega)
   have ho7 : Own w9 b #[.int .i64 (IntKind.wrap .i64 (r + 1)), .int .i64 d, .bool ((synB bs) != 0), .pointer (some ⟨gp, 0, none⟩), .bool dn] 134 := Own.cast hw4.own (by kernel_rfl)
   have hzhw4 := hw4.same
   refine VL_end (by kernel_rfl) ?_
   refine VQ_next ?_
   refine VC_seq ?_
   have hs1 := drew_step w9
   have hs1z : w9.heap.size = w9.drew.heap.size := rfl
   refine VC_text [[], [0], [0, 1], [0, 1, 2], [], [4], [4, 5], [0, 1, 2, 3, 4, 5, 6], [0, 1, 2, 3, 4, 5, 6, 7], [0, 1, 2, 3, 4, 5, 6, 7, 8]] 7 (fun x y => Step (fun k => w9.heap.size ≤ k) x y) [] [0, 1, 2, 3, 4, 5, 6] (by kernel_rfl) (by kernel_rfl) (by kernel_rfl) (by kernel_rfl) (fun x => Step.refl _ x) (fun h k => Step.trans h k) Step.weak ?_
   have hzl17 := ho2.lt
   generalize w9.drew = w10 at hs1 hs1z ⊢
   replace hS := Step.trans hS (Step.weak hs1)
   replace ho1 := ho1.no hs1
   replace ho2 := ho2.no hs1
   replace ho7 := ho7.no hs1
   refine VT_pures 2 (kn' := [(1, .int .i64 (IntKind.wrap .i64 (((bitV (synB bs) : Nat) : Int).tdiv 8))), (0, .int .i64 ((bitV (synB bs) : Nat) : Int))]) (by kernel_rfl) ?_
   refine VT_index (d := 56) (b := b1) (o := 0) (len := 5) (sz := 1) (mm := (IntKind.wrap .i64 (((bitV (synB bs) : Nat) : Int).tdiv 8))) (by kernel_rfl) (by kernel_rfl) ((bitV (synB bs)) / 8) THd1ae (by omega) ((bitV (synB bs)) / 8) (by omega) ?_
   refine VT_load (d := 57) (t := 5) (a := ⟨b1, ((bitV (synB bs)) / 8), none⟩) (v := .int .u8 (bs.getD ((bitV (synB bs)) / 8) 0)) (by kernel_rfl) (by kernel_rfl) ?_ ?_
   ·intro w11 hr1
    replace ho1 := ho1.step hr1 (by (try simp only); omega)
    exact (Loads.arr1 ho1 (by kernel_rfl) (by (try simp only [List.length_set, List.length_append, List.length_map, List.length_replicate, List.length_cons, List.length_nil, List.length_take, List.length_drop, List.length_range]) <;> omega))
   refine VT_pures 2 (kn' := [(5, .int .i64 (((bitV (synB bs) : Nat) : Int).tmod 8)), (4, .int .i64 ((bitV (synB bs) : Nat) : Int)), (3, .int .u8 (bs.getD ((bitV (synB bs)) / 8) 0)), (2, .pointer (some ⟨b1, ((bitV (synB bs)) / 8), none⟩)), (1, .int .i64 (IntKind.wrap .i64 (((bitV (synB bs) : Nat) : Int).tdiv 8))), (0, .int .i64 ((bitV (synB bs) : Nat) : Int))]) (by kernel_rfl) ?_
   refine VT_shr (d := 60) (kd := .u8) (x := 128) (y := (((bitV (synB bs) : Nat) : Int).tmod 8)) (by kernel_rfl) (by kernel_rfl) ((bitV (synB bs)) % 8) (tmod_nat (bitV (synB bs)) 8) (by simp only [IntKind.bits]; omega) ?_
   refine VT_end ?_
   intro w12 hs2
   replace hS := Step.trans hS (Step.weak hs2)
   replace ho1 := ho1.no hs2
   replace ho2 := ho2.no hs2
   replace ho7 := ho7.no hs2
   refine VL_keep [3, 4, 55, 57, 60] [(3, .pointer (some ⟨b1, 0, none⟩)), (4, .pointer (some ⟨b2, 0, none⟩)), (55, .int .i64 (IntKind.wrap .i64 (((bitV (synB bs) : Nat) : Int).tdiv 8))), (57, .int .u8 (bs.getD ((bitV (synB bs)) / 8) 0)), (60, .int .u8 ((128 : Int).fdiv (2 ^ ((bitV (synB bs)) % 8))))] (by kernel_rfl) ?_
   refine VL_pure 8 [3, 4, 55, 61] [(3, .pointer (some ⟨b1, 0, none⟩)), (4, .pointer (some ⟨b2, 0, none⟩)), (55, .int .i64 (IntKind.wrap .i64 (((bitV (synB bs) : Nat) : Int).tdiv 8))), (61, .int .u8 (bXor .u8 (bs.getD ((bitV (synB bs)) / 8) 0) ((128 : Int).fdiv (2 ^ ((bitV (synB bs)) % 8)))))] (by kernel_rfl) rfl ?_
   refine VL_index (d := 62) (b := b1) (o := 0) (len := 5) (sz := 1) (m := (IntKind.wrap .i64 (((bitV (synB bs) : Nat) : Int).tdiv 8))) (by kernel_rfl) (by kernel_rfl) ((bitV (synB bs)) / 8) THd1ae (by omega) ((bitV (synB bs)) / 8) (by omega) ?_
   refine VL_store (b := b1) (o := ((bitV (synB bs)) / 8)) (vs := [.int .u8 (bXor .u8 (bs.getD ((bitV (synB bs)) / 8) 0) ((128 : Int).fdiv (2 ^ ((bitV (synB bs)) % 8))))]) (by kernel_rfl) (by kernel_rfl) ho1 THd1ac ?_
   intro w13 hw5
   replace hS := Step.transNew hS hw5.step (fun _ _ _ => by omega)
   replace ho2 := ho2.step hw5.step (show ¬ b2 = b1 by omega)
   replace ho7 := ho7.step hw5.step (show ¬ b = b1 by omega)
   have ho8 := Own.cast hw5.own (iA_set ((bitV (synB bs)) / 8) (bXor .u8 (bs.getD ((bitV (synB bs)) / 8) 0) ((128 : Int).fdiv (2 ^ ((bitV (synB bs)) % 8)))) (by (try simp only [List.length_set, List.length_append, List.length_map, List.length_replicate, List.length_cons, List.length_nil, List.length_take, List.length_drop, List.length_range]) <;> omega))
   refine VL_end (by kernel_rfl) ?_
   refine VQ_next ?_
   refine VC_seq ?_
   refine VC_region ?_
   refine VL_pure 2 [4, 64] [(4, .pointer (some ⟨b2, 0, none⟩)), (64, .pointer (some ⟨b1, 0, none⟩))] (by kernel_rfl) rfl ?_
   refine VL_load (d := 65) (t := 151) (a := ⟨b1, 0, none⟩) (v := .agg (iA .u8 ((bs.set ((bitV (synB bs)) / 8) (bXor .u8 (bs.getD ((bitV (synB bs)) / 8) 0) ((128 : Int).fdiv (2 ^ ((bitV (synB bs)) % 8))))).take 4))) (by kernel_rfl) (by kernel_rfl) (Loads.slArr (Own.slI ho8 ho8.lt) (by kernel_rfl) THd1ad) ?_
   refine VL_storeA (b := b2) (sz := 4) (k := .u8) (bs := (bs.set ((bitV (synB bs)) / 8) (bXor .u8 (bs.getD ((bitV (synB bs)) / 8) 0) ((128 : Int).fdiv (2 ^ ((bitV (synB bs)) % 8))))).take 4) (by kernel_rfl) (by kernel_rfl) THd1ab ho2 (iA_size.trans (by (try simp only [List.length_set, List.length_append, List.length_map, List.length_replicate, List.length_cons, List.length_nil, List.length_take, List.length_drop, List.length_range]) <;> omega)) ?_
   intro w14 hw6
   replace hS := Step.transNew hS hw6.step (fun _ _ _ => by omega)
   replace ho7 := ho7.step hw6.step (show ¬ b = b2 by omega)
   have ho9 := hw6.own
   refine VL_pure 5 [4, 5] [(4, .pointer (some ⟨b2, 0, none⟩)), (5, .bool true)] (by kernel_rfl) rfl ?_
   refine VL_end (by kernel_rfl) ?_
   refine VQ_next ?_
   refine VC_ret ?_
   refine VQ_retC1T1 (T := 151) (.agg (iA .u8 ((bs.set ((bitV (synB bs)) / 8) (bXor .u8 (bs.getD ((bitV (synB bs)) / 8) 0) ((128 : Int).fdiv (2 ^ ((bitV (synB bs)) % 8))))).take 4))) (.bool true) (.inr rfl) rfl rfl rfl (Loads.arr (N := 4) ho9 (by kernel_rfl) THd1ab) ?_
   exact ⟨by unfold takeH takeO turn1; simp [*, if_true, if_false, true_or, or_true, false_or, or_false, Bool.false_eq_true, ite_true, ite_false, ne_eq, not_false_eq_true, reduceCtorEq], ⟨_, _, Own.cast ho7 THd1ah⟩, hS⟩

end Go.Proofs.YtcablikikkmfjaaGreat
end

section
/- Layer 2: headers. -/
set_option linter.unusedVariables false
set_option linter.unusedSimpArgs false
set_option maxRecDepth 100000
set_option maxHeartbeats 4000000
namespace Go.Proofs.YtcablikikkmfjaaGreat
open Go.Vc Go.RowKit
theorem THd2aa {P : Prop} (h : P := by unfold kindH; (repeat' split) <;> first | rfl | omega) : P := h
theorem THd2ab {P : Prop} (h : P := by simp only [List.length_singleton]; omega) : P := h

theorem sizes_any (w : World) :
  CV Tryz.prog 119 #[.bool false] w (fun x w1 => x = .agg #[.int .i64 4, .int .i64 8, .int .i64 16, .int .i64 3, .int .i64 1] ∧ Step No w w1) := by
 have hS : Step No w w := Step.refl _ _
 refine CV_enter Tryz.f119 _ 6 [(0, .bool false)] Tryz.func119 rfl rfl (by kernel_rfl) rfl ?_
 refine VC_seq ?_
 refine VC_region ?_
 refine VL_box (d := 2) (t := 256) (c := #[.int .i64 0, .int .i64 0, .int .i64 0, .int .i64 0, .int .i64 0]) (by kernel_rfl) (by kernel_rfl) ?_
 intro b1 w1 hn1
 replace hS := Step.trans hS (hn1.step No)
 have ho1 := hn1.own
 have hzhn1 := hn1.size
 have hqhn1 := hn1.eqb
 refine VL_end (by kernel_rfl) ?_
 refine VQ_next ?_
 refine VC_seq ?_
 refine VC_seq ?_
 refine VC_region ?_
 refine VL_pure 1 [2, 3] [(2, .pointer (some ⟨b1, 0, none⟩)), (3, .bool false)] (by kernel_rfl) rfl ?_
 refine VL_end (by kernel_rfl) ?_
 refine VQ_next ?_
 refine VC_false (by kernel_rfl) ?_
 refine VC_skip ?_
 refine VQ_next ?_
 refine VC_seq ?_
 refine VC_region ?_
 refine VL_pure 1 [2, 5] [(2, .pointer (some ⟨b1, 0, none⟩)), (5, .agg #[.int .i64 4, .int .i64 8, .int .i64 16, .int .i64 3, .int .i64 1])] (by kernel_rfl) rfl ?_
 refine VL_store (b := b1) (o := 0) (vs := [.int .i64 4, .int .i64 8, .int .i64 16, .int .i64 3, .int .i64 1]) (by kernel_rfl) (by kernel_rfl) ho1 (Nat.le_of_ble_eq_true (by kernel_rfl)) ?_
 intro w2 hw1
 replace hS := Step.transNew hS hw1.step (fun _ _ _ => by omega)
 have ho2 : Own w2 b1 #[.int .i64 4, .int .i64 8, .int .i64 16, .int .i64 3, .int .i64 1] 256 := Own.cast hw1.own (by kernel_rfl)
 refine VL_end (by kernel_rfl) ?_
 refine VQ_next ?_
 refine VC_ret ?_
 refine VQ_retC1 (T := 256) (.agg #[.int .i64 4, .int .i64 8, .int .i64 16, .int .i64 3, .int .i64 1]) (.inr rfl) rfl rfl (Loads.ownL ho2 (n := 5) (by kernel_rfl) (by kernel_rfl) (by kernel_rfl)) ?_
 exact ⟨rfl, hS⟩

theorem hright_any (h : Hd) (w : World) :
  CV Tryz.prog 118 #[.agg #[I6 h.g, I6 h.v, I6 h.c, I6 h.p, I6 h.l], Bo false] w (fun x w1 => x = Bo (hdOk h) ∧ Step No w w1) := by
 have hS : Step No w w := Step.refl _ _
 refine VCe Tryz.func118 (Vs (Vr ?_))
 refine Vx 0 40 #[I6 h.g, I6 h.v, I6 h.c, I6 h.p, I6 h.l] ?_
 intro b1 w1 hn1
 replace hS := Step.trans hS (hn1.step No)
 have ho1 := hn1.own
 have hzhn1 := hn1.size
 have hqhn1 := hn1.eqb
 refine Ve (Vn (VC_scope (Vs (Vr (Vp 1 ?_)))))
 refine Vc 1 Tryz.call119 (sizes_any _) ?_
 rintro _ w2 ⟨rfl, hc1⟩
 replace hS := Step.trans hS hc1
 replace ho1 := ho1.no hc1
 have hzl2 := ho1.lt
 refine Vx 2 256 #[I6 0, I6 0, I6 0, I6 0, I6 0] ?_
 intro b2 w3 hn2
 replace hS := Step.trans hS (hn2.step No)
 replace ho1 := ho1.no (hn2.step No)
 have ho2 := hn2.own
 have hzhn2 := hn2.size
 have hqhn2 := hn2.eqb
 refine Vst 3 (o := 0) [I6 4, I6 8, I6 16, I6 3, I6 1] ho2 #[I6 4, I6 8, I6 16, I6 3, I6 1] ?_
 intro w4 hw1
 replace hS := Step.transNew hS hw1.step (fun _ _ _ => by omega)
 replace ho1 := ho1.step hw1.step (show ¬ b1 = b2 by omega)
 have ho3 := hw1.own
 refine Ve (Vn (Vrp (Vs (VC_label (Vn (Vs (Vs (Vr (Vl 1 ho1 (Vl 3 ho1 (Vl 5 ho1 (Vl 7 ho1 (Vl 9 ho1 (Ve (Vn (VC_block (VC_rounds (VCL_round (Vs (Vr (Ve ?_)))))))))))))))))))))
 refine Vn (Vs (Vt (VC_skip (Vn (Vs (VC_block (Vrp (Vs (Vr (VL_pure 3 [5, 6, 21, 22, 7, 8, 28] [(5, Pt b2 0), (6, Bo true), (21, .agg #[I6 h.g, I6 h.v, I6 h.c, I6 h.p, I6 h.l]), (22, I6 0), (7, I6 0), (8, I6 h.g), (28, Bo (decide (h.g < 0)))] (by kernel_rfl) rfl (VL_dec (h.g < 0) (fun bV => [(5, Pt b2 0), (6, Bo true), (21, .agg #[I6 h.g, I6 h.v, I6 h.c, I6 h.p, I6 h.l]), (22, I6 0), (7, I6 0), (8, I6 h.g), (28, Bo bV)]) rfl (fun hg1 => ?_) (fun hg1 => ?_))))))))))))
 ·refine Ve (Vn (Vt (Vrp (VC_exit (VQ_block_miss (by kernel_rfl) (VQ_then_exit (VQ_then_exit (VQ_block_hit (Vn (Vrp (VC_ret (VQ_scope_ret (Vr1 (Bo false) ?_)))))))))))))
  exact ⟨congrArg Value.bool (Eq.symm (by rw [hdR]; simp_all)), hS⟩
 ·refine Vp 5 (VL_index (d := 31) (b := b2) (o := 0) (len := 5) (sz := 1) (m := 0) (by kernel_rfl) (by kernel_rfl) 0 (by rfl) (by omega) 0 (by omega) (Vl 6 ho3 (Ve (Vn (Viu (h.g.fdiv (2 ^ 4)) 0 (fun h1 => ?_) (fun h1 => ?_))))))
  ·refine Vrp (VC_exit (VQ_block_miss (by kernel_rfl) (VQ_then_exit (VQ_then_exit (VQ_block_hit (Vn (Vrp (VC_ret (VQ_scope_ret (Vr1 (Bo false) ?_))))))))))
   exact ⟨congrArg Value.bool (Eq.symm (by rw [hdR]; simp_all)), hS⟩
  ·refine VC_skip (VQ_block_normal (Vn (Vr (Ve (VQ_round (VCL_round (Vrp (Vs (Vt (VC_skip (Vn (Vs (VC_block (Vrp (Vs (Vr (VL_pure 3 [5, 6, 21, 22, 7, 8, 28] [(5, Pt b2 0), (6, Bo true), (21, .agg #[I6 h.g, I6 h.v, I6 h.c, I6 h.p, I6 h.l]), (22, I6 1), (7, I6 1), (8, I6 h.v), (28, Bo (decide (h.v < 0)))] (by kernel_rfl) rfl (VL_dec (h.v < 0) (fun bV => [(5, Pt b2 0), (6, Bo true), (21, .agg #[I6 h.g, I6 h.v, I6 h.c, I6 h.p, I6 h.l]), (22, I6 1), (7, I6 1), (8, I6 h.v), (28, Bo bV)]) rfl (fun hg2 => ?_) (fun hg2 => ?_)))))))))))))))))))
   ·refine Ve (Vn (Vt (Vrp (VC_exit (VQ_block_miss (by kernel_rfl) (VQ_then_exit (VQ_then_exit (VQ_block_hit (Vn (Vrp (VC_ret (VQ_scope_ret (Vr1 (Bo false) ?_)))))))))))))
    exact ⟨congrArg Value.bool (Eq.symm (by rw [hdR]; simp_all)), hS⟩
   ·refine Vp 5 (VL_index (d := 31) (b := b2) (o := 0) (len := 5) (sz := 1) (m := 1) (by kernel_rfl) (by kernel_rfl) 1 (by rfl) (by omega) 1 (by omega) (Vl 6 ho3 (Ve (Vn (Viu (h.v.fdiv (2 ^ 8)) 0 (fun h2 => ?_) (fun h2 => ?_))))))
    ·refine Vrp (VC_exit (VQ_block_miss (by kernel_rfl) (VQ_then_exit (VQ_then_exit (VQ_block_hit (Vn (Vrp (VC_ret (VQ_scope_ret (Vr1 (Bo false) ?_))))))))))
     exact ⟨congrArg Value.bool (Eq.symm (by rw [hdR]; simp_all)), hS⟩
    ·refine VC_skip (VQ_block_normal (Vn (Vr (Ve (VQ_round (VCL_round (Vrp (Vs (Vt (VC_skip (Vn (Vs (VC_block (Vrp (Vs (Vr (VL_pure 3 [5, 6, 21, 22, 7, 8, 28] [(5, Pt b2 0), (6, Bo true), (21, .agg #[I6 h.g, I6 h.v, I6 h.c, I6 h.p, I6 h.l]), (22, I6 2), (7, I6 2), (8, I6 h.c), (28, Bo (decide (h.c < 0)))] (by kernel_rfl) rfl (VL_dec (h.c < 0) (fun bV => [(5, Pt b2 0), (6, Bo true), (21, .agg #[I6 h.g, I6 h.v, I6 h.c, I6 h.p, I6 h.l]), (22, I6 2), (7, I6 2), (8, I6 h.c), (28, Bo bV)]) rfl (fun hg3 => ?_) (fun hg3 => ?_)))))))))))))))))))
     ·refine Ve (Vn (Vt (Vrp (VC_exit (VQ_block_miss (by kernel_rfl) (VQ_then_exit (VQ_then_exit (VQ_block_hit (Vn (Vrp (VC_ret (VQ_scope_ret (Vr1 (Bo false) ?_)))))))))))))
      exact ⟨congrArg Value.bool (Eq.symm (by rw [hdR]; simp_all)), hS⟩
     ·refine Vp 5 (VL_index (d := 31) (b := b2) (o := 0) (len := 5) (sz := 1) (m := 2) (by kernel_rfl) (by kernel_rfl) 2 (by rfl) (by omega) 2 (by omega) (Vl 6 ho3 (Ve (Vn (Viu (h.c.fdiv (2 ^ 16)) 0 (fun h3 => ?_) (fun h3 => ?_))))))
      ·refine Vrp (VC_exit (VQ_block_miss (by kernel_rfl) (VQ_then_exit (VQ_then_exit (VQ_block_hit (Vn (Vrp (VC_ret (VQ_scope_ret (Vr1 (Bo false) ?_))))))))))
       exact ⟨congrArg Value.bool (Eq.symm (by rw [hdR]; simp_all)), hS⟩
      ·refine VC_skip (VQ_block_normal (Vn (Vr (Ve (VQ_round (VCL_round (Vrp (Vs (Vt (VC_skip (Vn (Vs (VC_block (Vrp (Vs (Vr (VL_pure 3 [5, 6, 21, 22, 7, 8, 28] [(5, Pt b2 0), (6, Bo true), (21, .agg #[I6 h.g, I6 h.v, I6 h.c, I6 h.p, I6 h.l]), (22, I6 3), (7, I6 3), (8, I6 h.p), (28, Bo (decide (h.p < 0)))] (by kernel_rfl) rfl (VL_dec (h.p < 0) (fun bV => [(5, Pt b2 0), (6, Bo true), (21, .agg #[I6 h.g, I6 h.v, I6 h.c, I6 h.p, I6 h.l]), (22, I6 3), (7, I6 3), (8, I6 h.p), (28, Bo bV)]) rfl (fun hg4 => ?_) (fun hg4 => ?_)))))))))))))))))))
       ·refine Ve (Vn (Vt (Vrp (VC_exit (VQ_block_miss (by kernel_rfl) (VQ_then_exit (VQ_then_exit (VQ_block_hit (Vn (Vrp (VC_ret (VQ_scope_ret (Vr1 (Bo false) ?_)))))))))))))
        exact ⟨congrArg Value.bool (Eq.symm (by rw [hdR]; simp_all)), hS⟩
       ·refine Vp 5 (VL_index (d := 31) (b := b2) (o := 0) (len := 5) (sz := 1) (m := 3) (by kernel_rfl) (by kernel_rfl) 3 (by rfl) (by omega) 3 (by omega) (Vl 6 ho3 (Ve (Vn (Viu (h.p.fdiv (2 ^ 3)) 0 (fun h4 => ?_) (fun h4 => ?_))))))
        ·refine Vrp (VC_exit (VQ_block_miss (by kernel_rfl) (VQ_then_exit (VQ_then_exit (VQ_block_hit (Vn (Vrp (VC_ret (VQ_scope_ret (Vr1 (Bo false) ?_))))))))))
         exact ⟨congrArg Value.bool (Eq.symm (by rw [hdR]; simp_all)), hS⟩
        ·refine VC_skip (VQ_block_normal (Vn (Vr (Ve (VQ_round (VCL_round (Vrp (Vs (Vt (VC_skip (Vn (Vs (VC_block (Vrp (Vs (Vr (VL_pure 3 [5, 6, 21, 22, 7, 8, 28] [(5, Pt b2 0), (6, Bo true), (21, .agg #[I6 h.g, I6 h.v, I6 h.c, I6 h.p, I6 h.l]), (22, I6 4), (7, I6 4), (8, I6 h.l), (28, Bo (decide (h.l < 0)))] (by kernel_rfl) rfl (VL_dec (h.l < 0) (fun bV => [(5, Pt b2 0), (6, Bo true), (21, .agg #[I6 h.g, I6 h.v, I6 h.c, I6 h.p, I6 h.l]), (22, I6 4), (7, I6 4), (8, I6 h.l), (28, Bo bV)]) rfl (fun hg5 => ?_) (fun hg5 => ?_)))))))))))))))))))
         ·refine Ve (Vn (Vt (Vrp (VC_exit (VQ_block_miss (by kernel_rfl) (VQ_then_exit (VQ_then_exit (VQ_block_hit (Vn (Vrp (VC_ret (VQ_scope_ret (Vr1 (Bo false) ?_)))))))))))))
          exact ⟨congrArg Value.bool (Eq.symm (by rw [hdR]; simp_all)), hS⟩
         ·refine Vp 5 (VL_index (d := 31) (b := b2) (o := 0) (len := 5) (sz := 1) (m := 4) (by kernel_rfl) (by kernel_rfl) 4 (by rfl) (by omega) 4 (by omega) (Vl 6 ho3 (Ve (Vn (Viu (h.l.fdiv (2 ^ 1)) 0 (fun h5 => ?_) (fun h5 => ?_))))))
          ·refine Vrp (VC_exit (VQ_block_miss (by kernel_rfl) (VQ_then_exit (VQ_then_exit (VQ_block_hit (Vn (Vrp (VC_ret (VQ_scope_ret (Vr1 (Bo false) ?_))))))))))
           exact ⟨congrArg Value.bool (Eq.symm (by rw [hdR]; simp_all)), hS⟩
          ·refine VC_skip (VQ_block_normal (Vn (Vr (Ve (VQ_round (VCL_round (Vrp (Vs (Vf (VC_exit (VQ_then_exit (VQ_then_exit (VQ_block_hit (Vn (Vrp (VC_ret (VQ_scope_ret (Vr1 (Bo true) ?_))))))))))))))))))
           exact ⟨congrArg Value.bool (Eq.symm (by rw [hdR]; simp_all)), hS⟩

theorem kind_any (h : Hd) (w : World) :
  CV Tryz.prog 67 #[.agg #[I6 h.g, I6 h.v, I6 h.c, I6 h.p, I6 h.l]] w (fun x w1 => x = I6 (kindH h) ∧ Step No w w1) := by
 have hS : Step No w w := Step.refl _ _
 refine VCe Tryz.func67 (Vs (Vr ?_))
 refine Vx 0 40 #[I6 h.g, I6 h.v, I6 h.c, I6 h.p, I6 h.l] ?_
 intro b1 w1 hn1
 replace hS := Step.trans hS (hn1.step No)
 have ho1 := hn1.own
 refine Ve (Vn (Vs (Vr (Vl 1 ho1 (Vp 4 (Vand 7 11 8 [1] (h.v == 0) (h.c == 0) (fun hg1 J1 => ?_) ?_))))))
 ·refine Vl 5 ho1 ?_
  exact Vp 8 (Vk [11, 1] J1)
 refine Ve (Vn (Vs (VC_block (Vs (Vr (Vp 2 (Vand 14 18 6 [1, 3] ((h.v == 0) && (h.c == 0)) (h.p == 0) (fun hg2 J2 => ?_) ?_)))))))
 ·refine Vl 3 ho1 ?_
  exact Vp 6 (Vk [18, 1, 3] J2)
 refine Vp 7 (Vand 19 23 11 [1, 3] (((h.v == 0) && (h.c == 0)) && (h.p == 0)) (h.l == 1) (fun hg3 J3 => ?_) ?_)
 ·refine Vl 8 ho1 ?_
  exact Vp 11 (Vk [23, 1, 3] J3)
 refine Ve (Vn (Vif ((((h.v == 0) && (h.c == 0)) && (h.p == 0)) && (h.l == 1)) (fun h1 => ?_) (fun h1 => ?_)))
 ·try simp only [BB] at h1
  refine Vrp (VC_ret (VQ_block_ret (VQ_then_ret (Vr1 (I6 2) ?_))))
  exact ⟨congrArg (Value.int .i64) (Eq.symm THd2aa), hS⟩
 ·try simp only [BB] at h1
  refine Vs (Vr (Vp 2 (Vand 26 30 6 [1] ((h.v == 0) && (h.c == 0)) (h.l == 0) (fun hg4 J4 => ?_) ?_)))
  ·refine Vl 3 ho1 ?_
   exact Vp 6 (Vk [30, 1] J4)
  refine Ve (Vn (Vif (((h.v == 0) && (h.c == 0)) && (h.l == 0)) (fun h2 => ?_) (fun h2 => ?_)))
  ·try simp only [BB] at h2
   refine Vrp (VC_ret (VQ_block_ret (VQ_then_ret (Vr1 (I6 3) ?_))))
   exact ⟨congrArg (Value.int .i64) (Eq.symm THd2aa), hS⟩
  ·try simp only [BB] at h2
   refine Vs (Vr (Vl 1 ho1 (Ve (Vn (Vie h.c 0 (fun h3 => ?_) (fun h3 => ?_))))))
   ·refine Vrp (VC_ret (VQ_block_ret (VQ_then_ret (Vr1 (I6 10) ?_))))
    exact ⟨congrArg (Value.int .i64) (Eq.symm THd2aa), hS⟩
   ·refine Vs (Vr (Vl 1 ho1 (Ve (Vn (Vie h.c 3 (fun h4 => ?_) (fun h4 => ?_))))))
    ·refine Vrp (VC_ret (VQ_block_ret (VQ_then_ret (Vr1 (I6 4) ?_))))
     exact ⟨congrArg (Value.int .i64) (Eq.symm THd2aa), hS⟩
    ·refine Vs (Vr (Vl 1 ho1 (Ve (Vn (Vie h.c 4 (fun h5 => ?_) (fun h5 => ?_))))))
     ·refine Vrp (VC_ret (VQ_block_ret (VQ_then_ret (Vr1 (I6 5) ?_))))
      exact ⟨congrArg (Value.int .i64) (Eq.symm THd2aa), hS⟩
     ·refine Vs (Vr (Vl 1 ho1 (Vp 4 (Vand 47 51 8 [1] (h.c == 6) (h.p == 6) (fun hg5 J5 => ?_) ?_))))
      ·refine Vl 5 ho1 ?_
       exact Vp 8 (Vk [51, 1] J5)
      refine Ve (Vn (Vif ((h.c == 6) && (h.p == 6)) (fun h6 => ?_) (fun h6 => ?_)))
      ·try simp only [BB] at h6
       refine Vrp (VC_ret (VQ_block_ret (VQ_then_ret (Vr1 (I6 9) ?_))))
       exact ⟨congrArg (Value.int .i64) (Eq.symm THd2aa), hS⟩
      ·try simp only [BB] at h6
       refine VC_skip (VQ_block_normal (Vn (Vs (Vs (Vr (Vl 1 ho1 (Ve (Vn (VC_block (Vrp (Vie h.p 4 (fun h7 => ?_) (fun h7 => ?_))))))))))))
       ·refine Vrp (VC_ret (VQ_block_ret (VQ_then_ret (Vr1 (I6 6) ?_))))
        exact ⟨congrArg (Value.int .i64) (Eq.symm THd2aa), hS⟩
       ·refine Vrp (Vie h.p 5 (fun h8 => ?_) (fun h8 => ?_))
        ·refine Vrp (VC_ret (VQ_block_ret (VQ_then_ret (Vr1 (I6 7) ?_))))
         exact ⟨congrArg (Value.int .i64) (Eq.symm THd2aa), hS⟩
        ·refine Vrp (Vie h.p 6 (fun h9 => ?_) (fun h9 => ?_))
         ·refine Vrp (VC_ret (VQ_block_ret (VQ_then_ret (Vr1 (I6 8) ?_))))
          exact ⟨congrArg (Value.int .i64) (Eq.symm THd2aa), hS⟩
         ·refine Vrp (Vie h.p 7 (fun h10 => ?_) (fun h10 => ?_))
          ·refine Vrp (VC_ret (VQ_block_ret (VQ_then_ret (Vr1 (I6 10) ?_))))
           exact ⟨congrArg (Value.int .i64) (Eq.symm THd2aa), hS⟩
          ·refine VC_skip (VQ_block_normal (Vn (Vrp (VC_ret (Vr1 (I6 1) ?_)))))
           exact ⟨congrArg (Value.int .i64) (Eq.symm THd2aa), hS⟩

theorem hpack_yes (h : Hd) (w : World) (hok : hdOk h = true) :
  CV Tryz.prog 63 #[.agg #[I6 h.g, I6 h.v, I6 h.c, I6 h.p, I6 h.l], Bo false] w (fun x w1 => ∃ g, x = .tuple #[.slice (some ⟨g, 0, none⟩) 4 4, I6 0] ∧ Rw w1 w.heap.size 5 (some ⟨g, 0, none⟩) 4 4 (iL .u8 (hdB h)) ∧ Step No w w1) := by
 have hS : Step No w w := Step.refl _ _
 refine VCe Tryz.func63 (Vs (Vr ?_))
 refine Vx 0 40 #[I6 h.g, I6 h.v, I6 h.c, I6 h.p, I6 h.l] ?_
 intro b1 w1 hn1
 replace hS := Step.trans hS (hn1.step No)
 have ho1 := hn1.own
 have hzhn1 := hn1.size
 have hqhn1 := hn1.eqb
 refine Ve (Vn (Vs (Vs (Vr (Vl 0 ho1 (Vp 2 ?_))))))
 refine Vc 2 Tryz.call118 (hright_any h _) ?_
 rintro _ w2 ⟨rfl, hc1⟩
 replace hS := Step.trans hS hc1
 replace ho1 := ho1.no hc1
 refine Ve (Vn (Viz (b := !(hdOk h)) (by rw [hok]; rfl) (VC_skip (Vn (Vs (Vr (Vp 1 ?_)))))))
 refine Vc 1 Tryz.call119 (sizes_any _) ?_
 rintro _ w3 ⟨rfl, hc2⟩
 replace hS := Step.trans hS hc2
 replace ho1 := ho1.no hc2
 have hzl3 := ho1.lt
 refine Vx 2 256 #[I6 0, I6 0, I6 0, I6 0, I6 0] ?_
 intro b2 w4 hn2
 replace hS := Step.trans hS (hn2.step No)
 replace ho1 := ho1.no (hn2.step No)
 have ho2 := hn2.own
 have hzhn2 := hn2.size
 have hqhn2 := hn2.eqb
 refine Vst 3 (o := 0) [I6 4, I6 8, I6 16, I6 3, I6 1] ho2 #[I6 4, I6 8, I6 16, I6 3, I6 1] ?_
 intro w5 hw1
 replace hS := Step.transNew hS hw1.step (fun _ _ _ => by omega)
 replace ho1 := ho1.step hw1.step (show ¬ b1 = b2 by omega)
 have ho3 := hw1.own
 have hzhw1 := hw1.same
 refine Ve (Vn (Vrp (Vs (Vs (Vr (Vl 1 ho1 (Vl 3 ho1 (Vl 5 ho1 (Vl 7 ho1 (Vl 9 ho1 (Ve (Vn (VC_block (VC_rounds (VCL_round (Vrp (Vs (Vt ?_))))))))))))))))))
 refine VC_skip (Vn (Vs (VC_block (Vrp (Vr (Vp 2 (VL_index (d := 35) (b := b2) (o := 0) (len := 5) (sz := 1) (m := 0) (by kernel_rfl) (by kernel_rfl) 0 (by rfl) (by omega) 0 (by omega) (Vl 3 ho3 (Ve (VQ_block_normal (Vn (Vr (Ve (VQ_round (VCL_round (Vrp (Vs (Vt ?_))))))))))))))))))
 refine VC_skip (Vn (Vs (VC_block (Vrp (Vr (Vp 2 (VL_index (d := 35) (b := b2) (o := 0) (len := 5) (sz := 1) (m := 1) (by kernel_rfl) (by kernel_rfl) 1 (by rfl) (by omega) 1 (by omega) (Vl 3 ho3 (Ve (VQ_block_normal (Vn (Vr (Ve (VQ_round (VCL_round (Vrp (Vs (Vt ?_))))))))))))))))))
 refine VC_skip (Vn (Vs (VC_block (Vrp (Vr (Vp 2 (VL_index (d := 35) (b := b2) (o := 0) (len := 5) (sz := 1) (m := 2) (by kernel_rfl) (by kernel_rfl) 2 (by rfl) (by omega) 2 (by omega) (Vl 3 ho3 (Ve (VQ_block_normal (Vn (Vr (Ve (VQ_round (VCL_round (Vrp (Vs (Vt ?_))))))))))))))))))
 refine VC_skip (Vn (Vs (VC_block (Vrp (Vr (Vp 2 (VL_index (d := 35) (b := b2) (o := 0) (len := 5) (sz := 1) (m := 3) (by kernel_rfl) (by kernel_rfl) 3 (by rfl) (by omega) 3 (by omega) (Vl 3 ho3 (Ve (VQ_block_normal (Vn (Vr (Ve (VQ_round (VCL_round (Vrp (Vs (Vt ?_))))))))))))))))))
 refine VC_skip (Vn (Vs (VC_block (Vrp (Vr (Vp 2 (VL_index (d := 35) (b := b2) (o := 0) (len := 5) (sz := 1) (m := 4) (by kernel_rfl) (by kernel_rfl) 4 (by rfl) (by omega) 4 (by omega) (Vl 3 ho3 (Ve (VQ_block_normal (Vn (Vr (Ve (VQ_round (VCL_round (Vrp (Vs (Vf ?_))))))))))))))))))
 refine VC_exit (VQ_then_exit (VQ_then_exit (VQ_block_hit (Vn (Vs (Vr ?_))))))
 refine VL_make (t := 26) (a := 4) (b := 4) (e := 5) (d := 41) (k := .u8) (bytes := 1) (by kernel_rfl) (by kernel_rfl) (by kernel_rfl) (by kernel_rfl) 4 rfl rfl (by omega) (by omega) ?_
 intro g1 w6 hn3
 replace hS := Step.trans hS (hn3.step No)
 have hzhn3 := hn3.size
 have hqhn3 := hn3.eqb
 have hr1 := Rw.made hn3.own (by simp only [maxLen]; omega)
 refine Ve (Vn (Vs (Vrp (VC_block (VC_rounds (VCL_round (Vrp (Vs (Vt (VC_skip (Vn (Vs (VC_block (Vrp (Vr ?_)))))))))))))))
 refine Vp 8 (VL_index (d := 55) (b := g1) (o := 0) (len := 4) (sz := 1) (m := 3) (by kernel_rfl) (by kernel_rfl) 3 (by rfl) (by omega) 3 (by omega) ?_)
 obtain ⟨cur1, hgbcur1, hglcur1, howcur1, hcscur1, hcncur1, hcmcur1, hctcur1⟩ := hr1.openG
 refine VL_store (b := g1) (o := 3) (vs := [.int .u8 (IntKind.wrap .u8 ((bOr .i64 (IntKind.wrap .i64 ((bOr .i64 (IntKind.wrap .i64 ((bOr .i64 (IntKind.wrap .i64 ((bOr .i64 (IntKind.wrap .i64 ((bOr .i64 0 h.g) * 2 ^ 8)) h.v) * 2 ^ 16)) h.c) * 2 ^ 3)) h.p) * 2 ^ 1)) h.l).fdiv (2 ^ 0)))]) (by kernel_rfl) (by kernel_rfl) howcur1 THd2ab ?_
 intro w7 hw2
 replace hS := Step.transNew hS hw2.step (fun _ _ _ => by omega)
 have ho4 := Rw.putI hctcur1 hw2 hgbcur1 hcscur1 hcncur1 hcmcur1 (j := 3) (by omega)
 have hzhw2 := hw2.same
 refine Ve (VQ_block_normal (Vn (Vr (Ve (VQ_round (VCL_round (Vrp (Vs (Vt (VC_skip (Vn (Vs (VC_block (Vrp (Vr (Vp 8 (VL_index (d := 55) (b := g1) (o := 0) (len := 4) (sz := 1) (m := 2) (by kernel_rfl) (by kernel_rfl) 2 (by rfl) (by omega) 2 (by omega) ?_)))))))))))))))))
 obtain ⟨cur2, hgbcur2, hglcur2, howcur2, hcscur2, hcncur2, hcmcur2, hctcur2⟩ := ho4.openG
 refine VL_store (b := g1) (o := 2) (vs := [.int .u8 (IntKind.wrap .u8 ((bOr .i64 (IntKind.wrap .i64 ((bOr .i64 (IntKind.wrap .i64 ((bOr .i64 (IntKind.wrap .i64 ((bOr .i64 (IntKind.wrap .i64 ((bOr .i64 0 h.g) * 2 ^ 8)) h.v) * 2 ^ 16)) h.c) * 2 ^ 3)) h.p) * 2 ^ 1)) h.l).fdiv (2 ^ 8)))]) (by kernel_rfl) (by kernel_rfl) howcur2 THd2ab ?_
 intro w8 hw3
 replace hS := Step.transNew hS hw3.step (fun _ _ _ => by omega)
 have ho5 := Rw.putI hctcur2 hw3 hgbcur2 hcscur2 hcncur2 hcmcur2 (j := 2) (by omega)
 have hzhw3 := hw3.same
 refine Ve (VQ_block_normal (Vn (Vr (Ve (VQ_round (VCL_round (Vrp (Vs (Vt (VC_skip (Vn (Vs (VC_block (Vrp (Vr (Vp 8 (VL_index (d := 55) (b := g1) (o := 0) (len := 4) (sz := 1) (m := 1) (by kernel_rfl) (by kernel_rfl) 1 (by rfl) (by omega) 1 (by omega) ?_)))))))))))))))))
 obtain ⟨cur3, hgbcur3, hglcur3, howcur3, hcscur3, hcncur3, hcmcur3, hctcur3⟩ := ho5.openG
 refine VL_store (b := g1) (o := 1) (vs := [.int .u8 (IntKind.wrap .u8 ((bOr .i64 (IntKind.wrap .i64 ((bOr .i64 (IntKind.wrap .i64 ((bOr .i64 (IntKind.wrap .i64 ((bOr .i64 (IntKind.wrap .i64 ((bOr .i64 0 h.g) * 2 ^ 8)) h.v) * 2 ^ 16)) h.c) * 2 ^ 3)) h.p) * 2 ^ 1)) h.l).fdiv (2 ^ 16)))]) (by kernel_rfl) (by kernel_rfl) howcur3 THd2ab ?_
 intro w9 hw4
 replace hS := Step.transNew hS hw4.step (fun _ _ _ => by omega)
 have ho6 := Rw.putI hctcur3 hw4 hgbcur3 hcscur3 hcncur3 hcmcur3 (j := 1) (by omega)
 have hzhw4 := hw4.same
 refine Ve (VQ_block_normal (Vn (Vr (Ve (VQ_round (VCL_round (Vrp (Vs (Vt (VC_skip (Vn (Vs (VC_block (Vrp (Vr (Vp 8 (VL_index (d := 55) (b := g1) (o := 0) (len := 4) (sz := 1) (m := 0) (by kernel_rfl) (by kernel_rfl) 0 (by rfl) (by omega) 0 (by omega) ?_)))))))))))))))))
 obtain ⟨cur4, hgbcur4, hglcur4, howcur4, hcscur4, hcncur4, hcmcur4, hctcur4⟩ := ho6.openG
 refine VL_store (b := g1) (o := 0) (vs := [.int .u8 (IntKind.wrap .u8 ((bOr .i64 (IntKind.wrap .i64 ((bOr .i64 (IntKind.wrap .i64 ((bOr .i64 (IntKind.wrap .i64 ((bOr .i64 (IntKind.wrap .i64 ((bOr .i64 0 h.g) * 2 ^ 8)) h.v) * 2 ^ 16)) h.c) * 2 ^ 3)) h.p) * 2 ^ 1)) h.l).fdiv (2 ^ 24)))]) (by kernel_rfl) (by kernel_rfl) howcur4 THd2ab ?_
 intro w10 hw5
 replace hS := Step.transNew hS hw5.step (fun _ _ _ => by omega)
 have ho7 := Rw.putI hctcur4 hw5 hgbcur4 hcscur4 hcncur4 hcmcur4 (j := 0) (by omega)
 have hzhw5 := hw5.same
 refine Ve (VQ_block_normal (Vn (Vr (Ve (VQ_round (VCL_round (Vrp (Vs (Vf (VC_exit (VQ_then_exit (VQ_then_exit (VQ_block_hit (Vn (Vrp (VC_ret (Vr2 (.slice (some ⟨g1, 0, none⟩) 4 4) (I6 0) ?_)))))))))))))))))
 exact ⟨_, rfl, Rw.low (Rw.cast ho7 rfl (by rw [hdB_raw hok]; rfl)) (by omega), hS⟩

theorem hunp_any (A : Option Addr) (c Bd : Nat) (bs : List Int) (w : World) (hn : bs.length = 4) (hA : Sl w Bd A (iL .u8 bs)) (hb : Bytes bs) (hBd : Bd ≤ w.heap.size) :
  CV Tryz.prog 73 #[.slice A 4 c, .bool false] w (fun x w1 => x = .tuple #[.agg #[.int .i64 (unH bs).g, .int .i64 (unH bs).v, .int .i64 (unH bs).c, .int .i64 (unH bs).p, .int .i64 (unH bs).l], .int .i64 0] ∧ Step No w w1) := by
 have hS : Step No w w := Step.refl _ _
 refine CV_enter Tryz.f73 _ 75 [(0, .slice A 4 c), (1, .bool false)] Tryz.func73 rfl rfl (by kernel_rfl) rfl ?_
 refine VC_seq ?_
 refine VC_region ?_
 refine VL_box (d := 4) (t := 40) (c := #[.int .i64 0, .int .i64 0, .int .i64 0, .int .i64 0, .int .i64 0]) (by kernel_rfl) (by kernel_rfl) ?_
 intro b1 w1 hn1
 replace hS := Step.trans hS (hn1.step No)
 replace hA := hA.no (hn1.step No)
 have ho1 := hn1.own
 have hzhn1 := hn1.size
 have hqhn1 := hn1.eqb
 refine VL_pure 2 [0, 1, 4] [(0, .slice A 4 c), (1, .bool false), (4, .pointer (some ⟨b1, 0, none⟩))] (by kernel_rfl) rfl ?_
 refine VL_end (by kernel_rfl) ?_
 refine VQ_next ?_
 refine VC_seq ?_
 refine VC_block ?_
 refine VC_seq ?_
 refine VC_region ?_
 refine VL_pure 4 [0, 1, 4, 16] [(0, .slice A 4 c), (1, .bool false), (4, .pointer (some ⟨b1, 0, none⟩)), (16, .bool false)] (by kernel_rfl) rfl ?_
 refine VL_end (by kernel_rfl) ?_
 refine VQ_next ?_
 refine VC_false (by kernel_rfl) ?_
 refine VC_seq ?_
 refine VC_region ?_
 refine VL_pure 4 [0, 1, 4, 21] [(0, .slice A 4 c), (1, .bool false), (4, .pointer (some ⟨b1, 0, none⟩)), (21, .bool false)] (by kernel_rfl) rfl ?_
 refine VL_end (by kernel_rfl) ?_
 refine VQ_next ?_
 refine VC_false (by kernel_rfl) ?_
 refine VC_skip ?_
 refine VQ_block_normal ?_
 refine VQ_next ?_
 refine VC_seq ?_
 refine VC_region ?_
 refine VL_pure 1 [0, 1, 4, 6] [(0, .slice A 4 c), (1, .bool false), (4, .pointer (some ⟨b1, 0, none⟩)), (6, .int .i64 0)] (by kernel_rfl) rfl ?_
 refine VL_end (by kernel_rfl) ?_
 refine VQ_next ?_
 refine VC_seq ?_
 refine VC_seq ?_
 refine VC_region ?_
 refine VL_pure 3 [1, 4, 6, 26, 27, 28] [(1, .bool false), (4, .pointer (some ⟨b1, 0, none⟩)), (6, .int .i64 0), (26, .slice A 4 c), (27, .int .i64 4), (28, .int .i64 0)] (by kernel_rfl) rfl ?_
 refine VL_end (by kernel_rfl) ?_
 refine VQ_next ?_
 refine VC_block ?_
 refine VC_rounds ?_
 refine VCL_round ?_
 refine VC_seq ?_
 refine VC_region ?_
 refine VL_pure 1 [1, 4, 6, 26, 27, 28, 29] [(1, .bool false), (4, .pointer (some ⟨b1, 0, none⟩)), (6, .int .i64 0), (26, .slice A 4 c), (27, .int .i64 4), (28, .int .i64 0), (29, .bool true)] (by kernel_rfl) rfl ?_
 refine VL_end (by kernel_rfl) ?_
 refine VQ_next ?_
 refine VC_seq ?_
 refine VC_true (by kernel_rfl) ?_
 refine VC_skip ?_
 refine VQ_next ?_
 refine VC_seq ?_
 refine VC_block ?_
 refine VC_seq ?_
 refine VC_region ?_
 obtain ⟨sb1, so1, rfl, hlbsb1⟩ := hA.open (by simp only [iL_length]; omega)
 refine VL_index (d := 30) (b := sb1) (o := so1) (len := 4) (sz := 1) (m := 0) (by kernel_rfl) (by kernel_rfl) 0 (by rfl) (by omega) so1 (by omega) ?_
 refine VL_load (d := 31) (t := 5) (a := ⟨sb1, so1, none⟩) (v := .int .u8 (bs.getD 0 0)) (by kernel_rfl) (by kernel_rfl) (Sl.ldI hA (by kernel_rfl) 0 (by (try simp only [List.length_set, List.length_append, List.length_map, List.length_replicate, List.length_cons, List.length_nil, List.length_take, List.length_drop, List.length_range]) <;> omega)) ?_
 refine VL_pure 3 [1, 4, 6, 26, 27, 28, 8] [(1, .bool false), (4, .pointer (some ⟨b1, 0, none⟩)), (6, .int .i64 0), (26, .slice (some ⟨sb1, so1, none⟩) 4 c), (27, .int .i64 4), (28, .int .i64 0), (8, .int .u8 (bs.getD 0 0))] (by kernel_rfl) rfl ?_
 refine VL_end (by kernel_rfl) ?_
 refine VQ_next ?_
 refine VC_region ?_
 refine VL_pure 6 [1, 4, 6, 26, 27, 28] [(1, .bool false), (4, .pointer (some ⟨b1, 0, none⟩)), (6, .int .i64 (bOr .i64 0 (IntKind.wrap .i64 (bs.getD 0 0)))), (26, .slice (some ⟨sb1, so1, none⟩) 4 c), (27, .int .i64 4), (28, .int .i64 0)] (by kernel_rfl) rfl ?_
 refine VL_end (by kernel_rfl) ?_
 refine VQ_block_normal ?_
 refine VQ_next ?_
 refine VC_region ?_
 refine VL_pure 2 [1, 4, 6, 26, 27, 28] [(1, .bool false), (4, .pointer (some ⟨b1, 0, none⟩)), (6, .int .i64 (bOr .i64 0 (IntKind.wrap .i64 (bs.getD 0 0)))), (26, .slice (some ⟨sb1, so1, none⟩) 4 c), (27, .int .i64 4), (28, .int .i64 1)] (by kernel_rfl) rfl ?_
 refine VL_end (by kernel_rfl) ?_
 refine VQ_round ?_
 refine VCL_round ?_
 refine VC_seq ?_
 refine VC_region ?_
 refine VL_pure 1 [1, 4, 6, 26, 27, 28, 29] [(1, .bool false), (4, .pointer (some ⟨b1, 0, none⟩)), (6, .int .i64 (bOr .i64 0 (IntKind.wrap .i64 (bs.getD 0 0)))), (26, .slice (some ⟨sb1, so1, none⟩) 4 c), (27, .int .i64 4), (28, .int .i64 1), (29, .bool true)] (by kernel_rfl) rfl ?_
 refine VL_end (by kernel_rfl) ?_
 refine VQ_next ?_
 refine VC_seq ?_
 refine VC_true (by kernel_rfl) ?_
 refine VC_skip ?_
 refine VQ_next ?_
 refine VC_seq ?_
 refine VC_block ?_
 refine VC_seq ?_
 refine VC_region ?_
 refine VL_index (d := 30) (b := sb1) (o := so1) (len := 4) (sz := 1) (m := 1) (by kernel_rfl) (by kernel_rfl) 1 (by rfl) (by omega) (so1 + 1) (by omega) ?_
 refine VL_load (d := 31) (t := 5) (a := ⟨sb1, so1 + 1, none⟩) (v := .int .u8 (bs.getD 1 0)) (by kernel_rfl) (by kernel_rfl) (Sl.ldI hA (by kernel_rfl) 1 (by (try simp only [List.length_set, List.length_append, List.length_map, List.length_replicate, List.length_cons, List.length_nil, List.length_take, List.length_drop, List.length_range]) <;> omega)) ?_
 refine VL_pure 3 [1, 4, 6, 26, 27, 28, 8] [(1, .bool false), (4, .pointer (some ⟨b1, 0, none⟩)), (6, .int .i64 (bOr .i64 0 (IntKind.wrap .i64 (bs.getD 0 0)))), (26, .slice (some ⟨sb1, so1, none⟩) 4 c), (27, .int .i64 4), (28, .int .i64 1), (8, .int .u8 (bs.getD 1 0))] (by kernel_rfl) rfl ?_
 refine VL_end (by kernel_rfl) ?_
 refine VQ_next ?_
 refine VC_region ?_
 refine VL_pure 6 [1, 4, 6, 26, 27, 28] [(1, .bool false), (4, .pointer (some ⟨b1, 0, none⟩)), (6, .int .i64 (bOr .i64 (IntKind.wrap .i64 ((bOr .i64 0 (IntKind.wrap .i64 (bs.getD 0 0))) * 2 ^ 8)) (IntKind.wrap .i64 (bs.getD 1 0)))), (26, .slice (some ⟨sb1, so1, none⟩) 4 c), (27, .int .i64 4), (28, .int .i64 1)] (by kernel_rfl) rfl ?_
 refine VL_end (by kernel_rfl) ?_
 refine VQ_block_normal ?_
 refine VQ_next ?_
 refine VC_region ?_
 refine VL_pure 2 [1, 4, 6, 26, 27, 28] [(1, .bool false), (4, .pointer (some ⟨b1, 0, none⟩)), (6, .int .i64 (bOr .i64 (IntKind.wrap .i64 ((bOr .i64 0 (IntKind.wrap .i64 (bs.getD 0 0))) * 2 ^ 8)) (IntKind.wrap .i64 (bs.getD 1 0)))), (26, .slice (some ⟨sb1, so1, none⟩) 4 c), (27, .int .i64 4), (28, .int .i64 2)] (by kernel_rfl) rfl ?_
 refine VL_end (by kernel_rfl) ?_
 refine VQ_round ?_
 refine VCL_round ?_
 refine VC_seq ?_
 refine VC_region ?_
 refine VL_pure 1 [1, 4, 6, 26, 27, 28, 29] [(1, .bool false), (4, .pointer (some ⟨b1, 0, none⟩)), (6, .int .i64 (bOr .i64 (IntKind.wrap .i64 ((bOr .i64 0 (IntKind.wrap .i64 (bs.getD 0 0))) * 2 ^ 8)) (IntKind.wrap .i64 (bs.getD 1 0)))), (26, .slice (some ⟨sb1, so1, none⟩) 4 c), (27, .int .i64 4), (28, .int .i64 2), (29, .bool true)] (by kernel_rfl) rfl ?_
 refine VL_end (by kernel_rfl) ?_
 refine VQ_next ?_
 refine VC_seq ?_
 refine VC_true (by kernel_rfl) ?_
 refine VC_skip ?_
 refine VQ_next ?_
 refine VC_seq ?_
 refine VC_block ?_
 refine VC_seq ?_
 refine VC_region ?_
 refine VL_index (d := 30) (b := sb1) (o := so1) (len := 4) (sz := 1) (m := 2) (by kernel_rfl) (by kernel_rfl) 2 (by rfl) (by omega) (so1 + 2) (by omega) ?_
 refine VL_load (d := 31) (t := 5) (a := ⟨sb1, so1 + 2, none⟩) (v := .int .u8 (bs.getD 2 0)) (by kernel_rfl) (by kernel_rfl) (Sl.ldI hA (by kernel_rfl) 2 (by (try simp only [List.length_set, List.length_append, List.length_map, List.length_replicate, List.length_cons, List.length_nil, List.length_take, List.length_drop, List.length_range]) <;> omega)) ?_
 refine VL_pure 3 [1, 4, 6, 26, 27, 28, 8] [(1, .bool false), (4, .pointer (some ⟨b1, 0, none⟩)), (6, .int .i64 (bOr .i64 (IntKind.wrap .i64 ((bOr .i64 0 (IntKind.wrap .i64 (bs.getD 0 0))) * 2 ^ 8)) (IntKind.wrap .i64 (bs.getD 1 0)))), (26, .slice (some ⟨sb1, so1, none⟩) 4 c), (27, .int .i64 4), (28, .int .i64 2), (8, .int .u8 (bs.getD 2 0))] (by kernel_rfl) rfl ?_
 refine VL_end (by kernel_rfl) ?_
 refine VQ_next ?_
 refine VC_region ?_
 refine VL_pure 6 [1, 4, 6, 26, 27, 28] [(1, .bool false), (4, .pointer (some ⟨b1, 0, none⟩)), (6, .int .i64 (bOr .i64 (IntKind.wrap .i64 ((bOr .i64 (IntKind.wrap .i64 ((bOr .i64 0 (IntKind.wrap .i64 (bs.getD 0 0))) * 2 ^ 8)) (IntKind.wrap .i64 (bs.getD 1 0))) * 2 ^ 8)) (IntKind.wrap .i64 (bs.getD 2 0)))), (26, .slice (some ⟨sb1, so1, none⟩) 4 c), (27, .int .i64 4), (28, .int .i64 2)] (by kernel_rfl) rfl ?_
 refine VL_end (by kernel_rfl) ?_
 refine VQ_block_normal ?_
 refine VQ_next ?_
 refine VC_region ?_
 refine VL_pure 2 [1, 4, 6, 26, 27, 28] [(1, .bool false), (4, .pointer (some ⟨b1, 0, none⟩)), (6, .int .i64 (bOr .i64 (IntKind.wrap .i64 ((bOr .i64 (IntKind.wrap .i64 ((bOr .i64 0 (IntKind.wrap .i64 (bs.getD 0 0))) * 2 ^ 8)) (IntKind.wrap .i64 (bs.getD 1 0))) * 2 ^ 8)) (IntKind.wrap .i64 (bs.getD 2 0)))), (26, .slice (some ⟨sb1, so1, none⟩) 4 c), (27, .int .i64 4), (28, .int .i64 3)] (by kernel_rfl) rfl ?_
 refine VL_end (by kernel_rfl) ?_
 refine VQ_round ?_
 refine VCL_round ?_
 refine VC_seq ?_
 refine VC_region ?_
 refine VL_pure 1 [1, 4, 6, 26, 27, 28, 29] [(1, .bool false), (4, .pointer (some ⟨b1, 0, none⟩)), (6, .int .i64 (bOr .i64 (IntKind.wrap .i64 ((bOr .i64 (IntKind.wrap .i64 ((bOr .i64 0 (IntKind.wrap .i64 (bs.getD 0 0))) * 2 ^ 8)) (IntKind.wrap .i64 (bs.getD 1 0))) * 2 ^ 8)) (IntKind.wrap .i64 (bs.getD 2 0)))), (26, .slice (some ⟨sb1, so1, none⟩) 4 c), (27, .int .i64 4), (28, .int .i64 3), (29, .bool true)] (by kernel_rfl) rfl ?_
 refine VL_end (by kernel_rfl) ?_
 refine VQ_next ?_
 refine VC_seq ?_
 refine VC_true (by kernel_rfl) ?_
 refine VC_skip ?_
 refine VQ_next ?_
 refine VC_seq ?_
 refine VC_block ?_
 refine VC_seq ?_
 refine VC_region ?_
 refine VL_index (d := 30) (b := sb1) (o := so1) (len := 4) (sz := 1) (m := 3) (by kernel_rfl) (by kernel_rfl) 3 (by rfl) (by omega) (so1 + 3) (by omega) ?_
 refine VL_load (d := 31) (t := 5) (a := ⟨sb1, so1 + 3, none⟩) (v := .int .u8 (bs.getD 3 0)) (by kernel_rfl) (by kernel_rfl) (Sl.ldI hA (by kernel_rfl) 3 (by (try simp only [List.length_set, List.length_append, List.length_map, List.length_replicate, List.length_cons, List.length_nil, List.length_take, List.length_drop, List.length_range]) <;> omega)) ?_
 refine VL_pure 3 [1, 4, 6, 26, 27, 28, 8] [(1, .bool false), (4, .pointer (some ⟨b1, 0, none⟩)), (6, .int .i64 (bOr .i64 (IntKind.wrap .i64 ((bOr .i64 (IntKind.wrap .i64 ((bOr .i64 0 (IntKind.wrap .i64 (bs.getD 0 0))) * 2 ^ 8)) (IntKind.wrap .i64 (bs.getD 1 0))) * 2 ^ 8)) (IntKind.wrap .i64 (bs.getD 2 0)))), (26, .slice (some ⟨sb1, so1, none⟩) 4 c), (27, .int .i64 4), (28, .int .i64 3), (8, .int .u8 (bs.getD 3 0))] (by kernel_rfl) rfl ?_
 refine VL_end (by kernel_rfl) ?_
 refine VQ_next ?_
 refine VC_region ?_
 refine VL_pure 6 [1, 4, 6, 26, 27, 28] [(1, .bool false), (4, .pointer (some ⟨b1, 0, none⟩)), (6, .int .i64 (bOr .i64 (IntKind.wrap .i64 ((bOr .i64 (IntKind.wrap .i64 ((bOr .i64 (IntKind.wrap .i64 ((bOr .i64 0 (IntKind.wrap .i64 (bs.getD 0 0))) * 2 ^ 8)) (IntKind.wrap .i64 (bs.getD 1 0))) * 2 ^ 8)) (IntKind.wrap .i64 (bs.getD 2 0))) * 2 ^ 8)) (IntKind.wrap .i64 (bs.getD 3 0)))), (26, .slice (some ⟨sb1, so1, none⟩) 4 c), (27, .int .i64 4), (28, .int .i64 3)] (by kernel_rfl) rfl ?_
 refine VL_end (by kernel_rfl) ?_
 refine VQ_block_normal ?_
 refine VQ_next ?_
 refine VC_region ?_
 refine VL_pure 2 [1, 4, 6, 26, 27, 28] [(1, .bool false), (4, .pointer (some ⟨b1, 0, none⟩)), (6, .int .i64 (bOr .i64 (IntKind.wrap .i64 ((bOr .i64 (IntKind.wrap .i64 ((bOr .i64 (IntKind.wrap .i64 ((bOr .i64 0 (IntKind.wrap .i64 (bs.getD 0 0))) * 2 ^ 8)) (IntKind.wrap .i64 (bs.getD 1 0))) * 2 ^ 8)) (IntKind.wrap .i64 (bs.getD 2 0))) * 2 ^ 8)) (IntKind.wrap .i64 (bs.getD 3 0)))), (26, .slice (some ⟨sb1, so1, none⟩) 4 c), (27, .int .i64 4), (28, .int .i64 4)] (by kernel_rfl) rfl ?_
 refine VL_end (by kernel_rfl) ?_
 refine VQ_round ?_
 refine VCL_round ?_
 refine VC_seq ?_
 refine VC_region ?_
 refine VL_pure 1 [1, 4, 6, 26, 27, 28, 29] [(1, .bool false), (4, .pointer (some ⟨b1, 0, none⟩)), (6, .int .i64 (bOr .i64 (IntKind.wrap .i64 ((bOr .i64 (IntKind.wrap .i64 ((bOr .i64 (IntKind.wrap .i64 ((bOr .i64 0 (IntKind.wrap .i64 (bs.getD 0 0))) * 2 ^ 8)) (IntKind.wrap .i64 (bs.getD 1 0))) * 2 ^ 8)) (IntKind.wrap .i64 (bs.getD 2 0))) * 2 ^ 8)) (IntKind.wrap .i64 (bs.getD 3 0)))), (26, .slice (some ⟨sb1, so1, none⟩) 4 c), (27, .int .i64 4), (28, .int .i64 4), (29, .bool false)] (by kernel_rfl) rfl ?_
 refine VL_end (by kernel_rfl) ?_
 refine VQ_next ?_
 refine VC_seq ?_
 refine VC_false (by kernel_rfl) ?_
 refine VC_exit ?_
 refine VQ_then_exit ?_
 refine VQ_then_exit ?_
 refine VQ_block_hit ?_
 refine VQ_next ?_
 refine VC_seq ?_
 refine VC_region ?_
 refine VL_box (d := 9) (t := 40) (c := #[.int .i64 0, .int .i64 0, .int .i64 0, .int .i64 0, .int .i64 0]) (by kernel_rfl) (by kernel_rfl) ?_
 intro b2 w2 hn2
 replace hS := Step.trans hS (hn2.step No)
 replace ho1 := ho1.no (hn2.step No)
 have ho2 := hn2.own
 have hzhn2 := hn2.size
 have hqhn2 := hn2.eqb
 refine VL_end (by kernel_rfl) ?_
 refine VQ_next ?_
 refine VC_seq ?_
 refine VC_region ?_
 refine VL_pure 1 [4, 6, 9, 38] [(4, .pointer (some ⟨b1, 0, none⟩)), (6, .int .i64 (bOr .i64 (IntKind.wrap .i64 ((bOr .i64 (IntKind.wrap .i64 ((bOr .i64 (IntKind.wrap .i64 ((bOr .i64 0 (IntKind.wrap .i64 (bs.getD 0 0))) * 2 ^ 8)) (IntKind.wrap .i64 (bs.getD 1 0))) * 2 ^ 8)) (IntKind.wrap .i64 (bs.getD 2 0))) * 2 ^ 8)) (IntKind.wrap .i64 (bs.getD 3 0)))), (9, .pointer (some ⟨b2, 0, none⟩)), (38, .bool false)] (by kernel_rfl) rfl ?_
 refine VL_call (d := 39) (f := 119) (args := #[.bool false]) (by kernel_rfl) (by kernel_rfl) (by kernel_rfl) Tryz.call119 (sizes_any _) ?_
 rintro _ w3 ⟨rfl, hc1⟩
 replace hS := Step.trans hS hc1
 replace ho1 := ho1.no hc1
 replace ho2 := ho2.no hc1
 have hzl5 := ho2.lt
 refine VL_box (d := 10) (t := 256) (c := #[.int .i64 0, .int .i64 0, .int .i64 0, .int .i64 0, .int .i64 0]) (by kernel_rfl) (by kernel_rfl) ?_
 intro b3 w4 hn3
 replace hS := Step.trans hS (hn3.step No)
 replace ho1 := ho1.no (hn3.step No)
 replace ho2 := ho2.no (hn3.step No)
 have ho3 := hn3.own
 have hzhn3 := hn3.size
 have hqhn3 := hn3.eqb
 refine VL_store (b := b3) (o := 0) (vs := [.int .i64 4, .int .i64 8, .int .i64 16, .int .i64 3, .int .i64 1]) (by kernel_rfl) (by kernel_rfl) ho3 (Nat.le_of_ble_eq_true (by kernel_rfl)) ?_
 intro w5 hw1
 replace hS := Step.transNew hS hw1.step (fun _ _ _ => by omega)
 replace ho1 := ho1.step hw1.step (show ¬ b1 = b3 by omega)
 replace ho2 := ho2.step hw1.step (show ¬ b2 = b3 by omega)
 have ho4 : Own w5 b3 #[.int .i64 4, .int .i64 8, .int .i64 16, .int .i64 3, .int .i64 1] 256 := Own.cast hw1.own (by kernel_rfl)
 have hzhw1 := hw1.same
 refine VL_end (by kernel_rfl) ?_
 refine VQ_next ?_
 refine VC_seq ?_
 refine VC_seq ?_
 refine VC_region ?_
 refine VL_pure 7 [4, 6, 9, 10, 45, 46] [(4, .pointer (some ⟨b1, 0, none⟩)), (6, .int .i64 (bOr .i64 (IntKind.wrap .i64 ((bOr .i64 (IntKind.wrap .i64 ((bOr .i64 (IntKind.wrap .i64 ((bOr .i64 0 (IntKind.wrap .i64 (bs.getD 0 0))) * 2 ^ 8)) (IntKind.wrap .i64 (bs.getD 1 0))) * 2 ^ 8)) (IntKind.wrap .i64 (bs.getD 2 0))) * 2 ^ 8)) (IntKind.wrap .i64 (bs.getD 3 0)))), (9, .pointer (some ⟨b2, 0, none⟩)), (10, .pointer (some ⟨b3, 0, none⟩)), (45, .agg #[.pointer (some ⟨b2, 0, none⟩), .pointer (some ⟨b2, 1, none⟩), .pointer (some ⟨b2, 2, none⟩), .pointer (some ⟨b2, 3, none⟩), .pointer (some ⟨b2, 4, none⟩)]), (46, .int .i64 0)] (by kernel_rfl) rfl ?_
 refine VL_end (by kernel_rfl) ?_
 refine VQ_next ?_
 refine VC_block ?_
 refine VC_rounds ?_
 refine VCL_round ?_
 refine VC_seq ?_
 refine VC_region ?_
 refine VL_pure 1 [4, 6, 9, 10, 45, 46, 47] [(4, .pointer (some ⟨b1, 0, none⟩)), (6, .int .i64 (bOr .i64 (IntKind.wrap .i64 ((bOr .i64 (IntKind.wrap .i64 ((bOr .i64 (IntKind.wrap .i64 ((bOr .i64 0 (IntKind.wrap .i64 (bs.getD 0 0))) * 2 ^ 8)) (IntKind.wrap .i64 (bs.getD 1 0))) * 2 ^ 8)) (IntKind.wrap .i64 (bs.getD 2 0))) * 2 ^ 8)) (IntKind.wrap .i64 (bs.getD 3 0)))), (9, .pointer (some ⟨b2, 0, none⟩)), (10, .pointer (some ⟨b3, 0, none⟩)), (45, .agg #[.pointer (some ⟨b2, 0, none⟩), .pointer (some ⟨b2, 1, none⟩), .pointer (some ⟨b2, 2, none⟩), .pointer (some ⟨b2, 3, none⟩), .pointer (some ⟨b2, 4, none⟩)]), (46, .int .i64 0), (47, .bool true)] (by kernel_rfl) rfl ?_
 refine VL_end (by kernel_rfl) ?_
 refine VQ_next ?_
 refine VC_seq ?_
 refine VC_true (by kernel_rfl) ?_
 refine VC_skip ?_
 refine VQ_next ?_
 refine VC_seq ?_
 refine VC_block ?_
 refine VC_seq ?_
 refine VC_region ?_
 refine VL_pure 4 [4, 6, 9, 10, 45, 46, 11, 12] [(4, .pointer (some ⟨b1, 0, none⟩)), (6, .int .i64 (bOr .i64 (IntKind.wrap .i64 ((bOr .i64 (IntKind.wrap .i64 ((bOr .i64 (IntKind.wrap .i64 ((bOr .i64 0 (IntKind.wrap .i64 (bs.getD 0 0))) * 2 ^ 8)) (IntKind.wrap .i64 (bs.getD 1 0))) * 2 ^ 8)) (IntKind.wrap .i64 (bs.getD 2 0))) * 2 ^ 8)) (IntKind.wrap .i64 (bs.getD 3 0)))), (9, .pointer (some ⟨b2, 0, none⟩)), (10, .pointer (some ⟨b3, 0, none⟩)), (45, .agg #[.pointer (some ⟨b2, 0, none⟩), .pointer (some ⟨b2, 1, none⟩), .pointer (some ⟨b2, 2, none⟩), .pointer (some ⟨b2, 3, none⟩), .pointer (some ⟨b2, 4, none⟩)]), (46, .int .i64 0), (11, .int .i64 0), (12, .pointer (some ⟨b2, 0, none⟩))] (by kernel_rfl) rfl ?_
 refine VL_end (by kernel_rfl) ?_
 refine VQ_next ?_
 refine VC_seq ?_
 refine VC_region ?_
 refine VL_pure 1 [4, 6, 9, 10, 45, 46, 11, 12, 13] [(4, .pointer (some ⟨b1, 0, none⟩)), (6, .int .i64 (bOr .i64 (IntKind.wrap .i64 ((bOr .i64 (IntKind.wrap .i64 ((bOr .i64 (IntKind.wrap .i64 ((bOr .i64 0 (IntKind.wrap .i64 (bs.getD 0 0))) * 2 ^ 8)) (IntKind.wrap .i64 (bs.getD 1 0))) * 2 ^ 8)) (IntKind.wrap .i64 (bs.getD 2 0))) * 2 ^ 8)) (IntKind.wrap .i64 (bs.getD 3 0)))), (9, .pointer (some ⟨b2, 0, none⟩)), (10, .pointer (some ⟨b3, 0, none⟩)), (45, .agg #[.pointer (some ⟨b2, 0, none⟩), .pointer (some ⟨b2, 1, none⟩), .pointer (some ⟨b2, 2, none⟩), .pointer (some ⟨b2, 3, none⟩), .pointer (some ⟨b2, 4, none⟩)]), (46, .int .i64 0), (11, .int .i64 0), (12, .pointer (some ⟨b2, 0, none⟩)), (13, .int .i64 0)] (by kernel_rfl) rfl ?_
 refine VL_end (by kernel_rfl) ?_
 refine VQ_next ?_
 refine VC_seq ?_
 refine VC_seq ?_
 refine VC_region ?_
 refine VL_pure 5 [4, 6, 9, 10, 45, 46, 11, 12, 13, 52, 53, 54] [(4, .pointer (some ⟨b1, 0, none⟩)), (6, .int .i64 (bOr .i64 (IntKind.wrap .i64 ((bOr .i64 (IntKind.wrap .i64 ((bOr .i64 (IntKind.wrap .i64 ((bOr .i64 0 (IntKind.wrap .i64 (bs.getD 0 0))) * 2 ^ 8)) (IntKind.wrap .i64 (bs.getD 1 0))) * 2 ^ 8)) (IntKind.wrap .i64 (bs.getD 2 0))) * 2 ^ 8)) (IntKind.wrap .i64 (bs.getD 3 0)))), (9, .pointer (some ⟨b2, 0, none⟩)), (10, .pointer (some ⟨b3, 0, none⟩)), (45, .agg #[.pointer (some ⟨b2, 0, none⟩), .pointer (some ⟨b2, 1, none⟩), .pointer (some ⟨b2, 2, none⟩), .pointer (some ⟨b2, 3, none⟩), .pointer (some ⟨b2, 4, none⟩)]), (46, .int .i64 0), (11, .int .i64 0), (12, .pointer (some ⟨b2, 0, none⟩)), (13, .int .i64 0), (52, .slice (some ⟨b3, 1, none⟩) 4 4), (53, .int .i64 4), (54, .int .i64 0)] (by kernel_rfl) rfl ?_
 refine VL_end (by kernel_rfl) ?_
 refine VQ_next ?_
 refine VC_block ?_
 refine VC_rounds ?_
 refine VCL_round ?_
 refine VC_seq ?_
 refine VC_region ?_
 refine VL_pure 1 [4, 6, 9, 10, 45, 46, 11, 12, 13, 52, 53, 54, 55] [(4, .pointer (some ⟨b1, 0, none⟩)), (6, .int .i64 (bOr .i64 (IntKind.wrap .i64 ((bOr .i64 (IntKind.wrap .i64 ((bOr .i64 (IntKind.wrap .i64 ((bOr .i64 0 (IntKind.wrap .i64 (bs.getD 0 0))) * 2 ^ 8)) (IntKind.wrap .i64 (bs.getD 1 0))) * 2 ^ 8)) (IntKind.wrap .i64 (bs.getD 2 0))) * 2 ^ 8)) (IntKind.wrap .i64 (bs.getD 3 0)))), (9, .pointer (some ⟨b2, 0, none⟩)), (10, .pointer (some ⟨b3, 0, none⟩)), (45, .agg #[.pointer (some ⟨b2, 0, none⟩), .pointer (some ⟨b2, 1, none⟩), .pointer (some ⟨b2, 2, none⟩), .pointer (some ⟨b2, 3, none⟩), .pointer (some ⟨b2, 4, none⟩)]), (46, .int .i64 0), (11, .int .i64 0), (12, .pointer (some ⟨b2, 0, none⟩)), (13, .int .i64 0), (52, .slice (some ⟨b3, 1, none⟩) 4 4), (53, .int .i64 4), (54, .int .i64 0), (55, .bool true)] (by kernel_rfl) rfl ?_
 refine VL_end (by kernel_rfl) ?_
 refine VQ_next ?_
 refine VC_seq ?_
 refine VC_true (by kernel_rfl) ?_
 refine VC_skip ?_
 refine VQ_next ?_
 refine VC_seq ?_
 refine VC_block ?_
 refine VC_seq ?_
 refine VC_region ?_
 refine VL_index (d := 56) (b := b3) (o := 1) (len := 4) (sz := 1) (m := 0) (by kernel_rfl) (by kernel_rfl) 0 (by rfl) (by omega) 1 (by omega) ?_
 refine VL_load (d := 57) (t := 3) (a := ⟨b3, 1, none⟩) (v := .int .i64 8) (by kernel_rfl) (by kernel_rfl) (Loads.own1 ho4 (by kernel_rfl) (by rfl)) ?_
 refine VL_pure 3 [4, 6, 9, 10, 45, 46, 11, 12, 13, 52, 53, 54, 15] [(4, .pointer (some ⟨b1, 0, none⟩)), (6, .int .i64 (bOr .i64 (IntKind.wrap .i64 ((bOr .i64 (IntKind.wrap .i64 ((bOr .i64 (IntKind.wrap .i64 ((bOr .i64 0 (IntKind.wrap .i64 (bs.getD 0 0))) * 2 ^ 8)) (IntKind.wrap .i64 (bs.getD 1 0))) * 2 ^ 8)) (IntKind.wrap .i64 (bs.getD 2 0))) * 2 ^ 8)) (IntKind.wrap .i64 (bs.getD 3 0)))), (9, .pointer (some ⟨b2, 0, none⟩)), (10, .pointer (some ⟨b3, 0, none⟩)), (45, .agg #[.pointer (some ⟨b2, 0, none⟩), .pointer (some ⟨b2, 1, none⟩), .pointer (some ⟨b2, 2, none⟩), .pointer (some ⟨b2, 3, none⟩), .pointer (some ⟨b2, 4, none⟩)]), (46, .int .i64 0), (11, .int .i64 0), (12, .pointer (some ⟨b2, 0, none⟩)), (13, .int .i64 0), (52, .slice (some ⟨b3, 1, none⟩) 4 4), (53, .int .i64 4), (54, .int .i64 0), (15, .int .i64 8)] (by kernel_rfl) rfl ?_
 refine VL_end (by kernel_rfl) ?_
 refine VQ_next ?_
 refine VC_region ?_
 refine VL_pure 4 [4, 6, 9, 10, 45, 46, 11, 12, 13, 52, 53, 54] [(4, .pointer (some ⟨b1, 0, none⟩)), (6, .int .i64 (bOr .i64 (IntKind.wrap .i64 ((bOr .i64 (IntKind.wrap .i64 ((bOr .i64 (IntKind.wrap .i64 ((bOr .i64 0 (IntKind.wrap .i64 (bs.getD 0 0))) * 2 ^ 8)) (IntKind.wrap .i64 (bs.getD 1 0))) * 2 ^ 8)) (IntKind.wrap .i64 (bs.getD 2 0))) * 2 ^ 8)) (IntKind.wrap .i64 (bs.getD 3 0)))), (9, .pointer (some ⟨b2, 0, none⟩)), (10, .pointer (some ⟨b3, 0, none⟩)), (45, .agg #[.pointer (some ⟨b2, 0, none⟩), .pointer (some ⟨b2, 1, none⟩), .pointer (some ⟨b2, 2, none⟩), .pointer (some ⟨b2, 3, none⟩), .pointer (some ⟨b2, 4, none⟩)]), (46, .int .i64 0), (11, .int .i64 0), (12, .pointer (some ⟨b2, 0, none⟩)), (13, .int .i64 8), (52, .slice (some ⟨b3, 1, none⟩) 4 4), (53, .int .i64 4), (54, .int .i64 0)] (by kernel_rfl) rfl ?_
 refine VL_end (by kernel_rfl) ?_
 refine VQ_block_normal ?_
 refine VQ_next ?_
 refine VC_region ?_
 refine VL_pure 2 [4, 6, 9, 10, 45, 46, 11, 12, 13, 52, 53, 54] [(4, .pointer (some ⟨b1, 0, none⟩)), (6, .int .i64 (bOr .i64 (IntKind.wrap .i64 ((bOr .i64 (IntKind.wrap .i64 ((bOr .i64 (IntKind.wrap .i64 ((bOr .i64 0 (IntKind.wrap .i64 (bs.getD 0 0))) * 2 ^ 8)) (IntKind.wrap .i64 (bs.getD 1 0))) * 2 ^ 8)) (IntKind.wrap .i64 (bs.getD 2 0))) * 2 ^ 8)) (IntKind.wrap .i64 (bs.getD 3 0)))), (9, .pointer (some ⟨b2, 0, none⟩)), (10, .pointer (some ⟨b3, 0, none⟩)), (45, .agg #[.pointer (some ⟨b2, 0, none⟩), .pointer (some ⟨b2, 1, none⟩), .pointer (some ⟨b2, 2, none⟩), .pointer (some ⟨b2, 3, none⟩), .pointer (some ⟨b2, 4, none⟩)]), (46, .int .i64 0), (11, .int .i64 0), (12, .pointer (some ⟨b2, 0, none⟩)), (13, .int .i64 8), (52, .slice (some ⟨b3, 1, none⟩) 4 4), (53, .int .i64 4), (54, .int .i64 1)] (by kernel_rfl) rfl ?_
 refine VL_end (by kernel_rfl) ?_
 refine VQ_round ?_
 refine VCL_round ?_
 refine VC_seq ?_
 refine VC_region ?_
 refine VL_pure 1 [4, 6, 9, 10, 45, 46, 11, 12, 13, 52, 53, 54, 55] [(4, .pointer (some ⟨b1, 0, none⟩)), (6, .int .i64 (bOr .i64 (IntKind.wrap .i64 ((bOr .i64 (IntKind.wrap .i64 ((bOr .i64 (IntKind.wrap .i64 ((bOr .i64 0 (IntKind.wrap .i64 (bs.getD 0 0))) * 2 ^ 8)) (IntKind.wrap .i64 (bs.getD 1 0))) * 2 ^ 8)) (IntKind.wrap .i64 (bs.getD 2 0))) * 2 ^ 8)) (IntKind.wrap .i64 (bs.getD 3 0)))), (9, .pointer (some ⟨b2, 0, none⟩)), (10, .pointer (some ⟨b3, 0, none⟩)), (45, .agg #[.pointer (some ⟨b2, 0, none⟩), .pointer (some ⟨b2, 1, none⟩), .pointer (some ⟨b2, 2, none⟩), .pointer (some ⟨b2, 3, none⟩), .pointer (some ⟨b2, 4, none⟩)]), (46, .int .i64 0), (11, .int .i64 0), (12, .pointer (some ⟨b2, 0, none⟩)), (13, .int .i64 8), (52, .slice (some ⟨b3, 1, none⟩) 4 4), (53, .int .i64 4), (54, .int .i64 1), (55, .bool true)] (by kernel_rfl) rfl ?_
 refine VL_end (by kernel_rfl) ?_
 refine VQ_next ?_
 refine VC_seq ?_
 refine VC_true (by kernel_rfl) ?_
 refine VC_skip ?_
 refine VQ_next ?_
 refine VC_seq ?_
 refine VC_block ?_
 refine VC_seq ?_
 refine VC_region ?_
 refine VL_index (d := 56) (b := b3) (o := 1) (len := 4) (sz := 1) (m := 1) (by kernel_rfl) (by kernel_rfl) 1 (by rfl) (by omega) 2 (by omega) ?_
 refine VL_load (d := 57) (t := 3) (a := ⟨b3, 2, none⟩) (v := .int .i64 16) (by kernel_rfl) (by kernel_rfl) (Loads.own1 ho4 (by kernel_rfl) (by rfl)) ?_
 refine VL_pure 3 [4, 6, 9, 10, 45, 46, 11, 12, 13, 52, 53, 54, 15] [(4, .pointer (some ⟨b1, 0, none⟩)), (6, .int .i64 (bOr .i64 (IntKind.wrap .i64 ((bOr .i64 (IntKind.wrap .i64 ((bOr .i64 (IntKind.wrap .i64 ((bOr .i64 0 (IntKind.wrap .i64 (bs.getD 0 0))) * 2 ^ 8)) (IntKind.wrap .i64 (bs.getD 1 0))) * 2 ^ 8)) (IntKind.wrap .i64 (bs.getD 2 0))) * 2 ^ 8)) (IntKind.wrap .i64 (bs.getD 3 0)))), (9, .pointer (some ⟨b2, 0, none⟩)), (10, .pointer (some ⟨b3, 0, none⟩)), (45, .agg #[.pointer (some ⟨b2, 0, none⟩), .pointer (some ⟨b2, 1, none⟩), .pointer (some ⟨b2, 2, none⟩), .pointer (some ⟨b2, 3, none⟩), .pointer (some ⟨b2, 4, none⟩)]), (46, .int .i64 0), (11, .int .i64 0), (12, .pointer (some ⟨b2, 0, none⟩)), (13, .int .i64 8), (52, .slice (some ⟨b3, 1, none⟩) 4 4), (53, .int .i64 4), (54, .int .i64 1), (15, .int .i64 16)] (by kernel_rfl) rfl ?_
 refine VL_end (by kernel_rfl) ?_
 refine VQ_next ?_
 refine VC_region ?_
 refine VL_pure 4 [4, 6, 9, 10, 45, 46, 11, 12, 13, 52, 53, 54] [(4, .pointer (some ⟨b1, 0, none⟩)), (6, .int .i64 (bOr .i64 (IntKind.wrap .i64 ((bOr .i64 (IntKind.wrap .i64 ((bOr .i64 (IntKind.wrap .i64 ((bOr .i64 0 (IntKind.wrap .i64 (bs.getD 0 0))) * 2 ^ 8)) (IntKind.wrap .i64 (bs.getD 1 0))) * 2 ^ 8)) (IntKind.wrap .i64 (bs.getD 2 0))) * 2 ^ 8)) (IntKind.wrap .i64 (bs.getD 3 0)))), (9, .pointer (some ⟨b2, 0, none⟩)), (10, .pointer (some ⟨b3, 0, none⟩)), (45, .agg #[.pointer (some ⟨b2, 0, none⟩), .pointer (some ⟨b2, 1, none⟩), .pointer (some ⟨b2, 2, none⟩), .pointer (some ⟨b2, 3, none⟩), .pointer (some ⟨b2, 4, none⟩)]), (46, .int .i64 0), (11, .int .i64 0), (12, .pointer (some ⟨b2, 0, none⟩)), (13, .int .i64 24), (52, .slice (some ⟨b3, 1, none⟩) 4 4), (53, .int .i64 4), (54, .int .i64 1)] (by kernel_rfl) rfl ?_
 refine VL_end (by kernel_rfl) ?_
 refine VQ_block_normal ?_
 refine VQ_next ?_
 refine VC_region ?_
 refine VL_pure 2 [4, 6, 9, 10, 45, 46, 11, 12, 13, 52, 53, 54] [(4, .pointer (some ⟨b1, 0, none⟩)), (6, .int .i64 (bOr .i64 (IntKind.wrap .i64 ((bOr .i64 (IntKind.wrap .i64 ((bOr .i64 (IntKind.wrap .i64 ((bOr .i64 0 (IntKind.wrap .i64 (bs.getD 0 0))) * 2 ^ 8)) (IntKind.wrap .i64 (bs.getD 1 0))) * 2 ^ 8)) (IntKind.wrap .i64 (bs.getD 2 0))) * 2 ^ 8)) (IntKind.wrap .i64 (bs.getD 3 0)))), (9, .pointer (some ⟨b2, 0, none⟩)), (10, .pointer (some ⟨b3, 0, none⟩)), (45, .agg #[.pointer (some ⟨b2, 0, none⟩), .pointer (some ⟨b2, 1, none⟩), .pointer (some ⟨b2, 2, none⟩), .pointer (some ⟨b2, 3, none⟩), .pointer (some ⟨b2, 4, none⟩)]), (46, .int .i64 0), (11, .int .i64 0), (12, .pointer (some ⟨b2, 0, none⟩)), (13, .int .i64 24), (52, .slice (some ⟨b3, 1, none⟩) 4 4), (53, .int .i64 4), (54, .int .i64 2)] (by kernel_rfl) rfl ?_
 refine VL_end (by kernel_rfl) ?_
 refine VQ_round ?_
 refine VCL_round ?_
 refine VC_seq ?_
 refine VC_region ?_
 refine VL_pure 1 [4, 6, 9, 10, 45, 46, 11, 12, 13, 52, 53, 54, 55] [(4, .pointer (some ⟨b1, 0, none⟩)), (6, .int .i64 (bOr .i64 (IntKind.wrap .i64 ((bOr .i64 (IntKind.wrap .i64 ((bOr .i64 (IntKind.wrap .i64 ((bOr .i64 0 (IntKind.wrap .i64 (bs.getD 0 0))) * 2 ^ 8)) (IntKind.wrap .i64 (bs.getD 1 0))) * 2 ^ 8)) (IntKind.wrap .i64 (bs.getD 2 0))) * 2 ^ 8)) (IntKind.wrap .i64 (bs.getD 3 0)))), (9, .pointer (some ⟨b2, 0, none⟩)), (10, .pointer (some ⟨b3, 0, none⟩)), (45, .agg #[.pointer (some ⟨b2, 0, none⟩), .pointer (some ⟨b2, 1, none⟩), .pointer (some ⟨b2, 2, none⟩), .pointer (some ⟨b2, 3, none⟩), .pointer (some ⟨b2, 4, none⟩)]), (46, .int .i64 0), (11, .int .i64 0), (12, .pointer (some ⟨b2, 0, none⟩)), (13, .int .i64 24), (52, .slice (some ⟨b3, 1, none⟩) 4 4), (53, .int .i64 4), (54, .int .i64 2), (55, .bool true)] (by kernel_rfl) rfl ?_
 refine VL_end (by kernel_rfl) ?_
 refine VQ_next ?_
 refine VC_seq ?_
 refine VC_true (by kernel_rfl) ?_
 refine VC_skip ?_
 refine VQ_next ?_
 refine VC_seq ?_
 refine VC_block ?_
 refine VC_seq ?_
 refine VC_region ?_
 refine VL_index (d := 56) (b := b3) (o := 1) (len := 4) (sz := 1) (m := 2) (by kernel_rfl) (by kernel_rfl) 2 (by rfl) (by omega) 3 (by omega) ?_
 refine VL_load (d := 57) (t := 3) (a := ⟨b3, 3, none⟩) (v := .int .i64 3) (by kernel_rfl) (by kernel_rfl) (Loads.own1 ho4 (by kernel_rfl) (by rfl)) ?_
 refine VL_pure 3 [4, 6, 9, 10, 45, 46, 11, 12, 13, 52, 53, 54, 15] [(4, .pointer (some ⟨b1, 0, none⟩)), (6, .int .i64 (bOr .i64 (IntKind.wrap .i64 ((bOr .i64 (IntKind.wrap .i64 ((bOr .i64 (IntKind.wrap .i64 ((bOr .i64 0 (IntKind.wrap .i64 (bs.getD 0 0))) * 2 ^ 8)) (IntKind.wrap .i64 (bs.getD 1 0))) * 2 ^ 8)) (IntKind.wrap .i64 (bs.getD 2 0))) * 2 ^ 8)) (IntKind.wrap .i64 (bs.getD 3 0)))), (9, .pointer (some ⟨b2, 0, none⟩)), (10, .pointer (some ⟨b3, 0, none⟩)), (45, .agg #[.pointer (some ⟨b2, 0, none⟩), .pointer (some ⟨b2, 1, none⟩), .pointer (some ⟨b2, 2, none⟩), .pointer (some ⟨b2, 3, none⟩), .pointer (some ⟨b2, 4, none⟩)]), (46, .int .i64 0), (11, .int .i64 0), (12, .pointer (some ⟨b2, 0, none⟩)), (13, .int .i64 24), (52, .slice (some ⟨b3, 1, none⟩) 4 4), (53, .int .i64 4), (54, .int .i64 2), (15, .int .i64 3)] (by kernel_rfl) rfl ?_
 refine VL_end (by kernel_rfl) ?_
 refine VQ_next ?_
 refine VC_region ?_
 refine VL_pure 4 [4, 6, 9, 10, 45, 46, 11, 12, 13, 52, 53, 54] [(4, .pointer (some ⟨b1, 0, none⟩)), (6, .int .i64 (bOr .i64 (IntKind.wrap .i64 ((bOr .i64 (IntKind.wrap .i64 ((bOr .i64 (IntKind.wrap .i64 ((bOr .i64 0 (IntKind.wrap .i64 (bs.getD 0 0))) * 2 ^ 8)) (IntKind.wrap .i64 (bs.getD 1 0))) * 2 ^ 8)) (IntKind.wrap .i64 (bs.getD 2 0))) * 2 ^ 8)) (IntKind.wrap .i64 (bs.getD 3 0)))), (9, .pointer (some ⟨b2, 0, none⟩)), (10, .pointer (some ⟨b3, 0, none⟩)), (45, .agg #[.pointer (some ⟨b2, 0, none⟩), .pointer (some ⟨b2, 1, none⟩), .pointer (some ⟨b2, 2, none⟩), .pointer (some ⟨b2, 3, none⟩), .pointer (some ⟨b2, 4, none⟩)]), (46, .int .i64 0), (11, .int .i64 0), (12, .pointer (some ⟨b2, 0, none⟩)), (13, .int .i64 27), (52, .slice (some ⟨b3, 1, none⟩) 4 4), (53, .int .i64 4), (54, .int .i64 2)] (by kernel_rfl) rfl ?_
 refine VL_end (by kernel_rfl) ?_
 refine VQ_block_normal ?_
 refine VQ_next ?_
 refine VC_region ?_
 refine VL_pure 2 [4, 6, 9, 10, 45, 46, 11, 12, 13, 52, 53, 54] [(4, .pointer (some ⟨b1, 0, none⟩)), (6, .int .i64 (bOr .i64 (IntKind.wrap .i64 ((bOr .i64 (IntKind.wrap .i64 ((bOr .i64 (IntKind.wrap .i64 ((bOr .i64 0 (IntKind.wrap .i64 (bs.getD 0 0))) * 2 ^ 8)) (IntKind.wrap .i64 (bs.getD 1 0))) * 2 ^ 8)) (IntKind.wrap .i64 (bs.getD 2 0))) * 2 ^ 8)) (IntKind.wrap .i64 (bs.getD 3 0)))), (9, .pointer (some ⟨b2, 0, none⟩)), (10, .pointer (some ⟨b3, 0, none⟩)), (45, .agg #[.pointer (some ⟨b2, 0, none⟩), .pointer (some ⟨b2, 1, none⟩), .pointer (some ⟨b2, 2, none⟩), .pointer (some ⟨b2, 3, none⟩), .pointer (some ⟨b2, 4, none⟩)]), (46, .int .i64 0), (11, .int .i64 0), (12, .pointer (some ⟨b2, 0, none⟩)), (13, .int .i64 27), (52, .slice (some ⟨b3, 1, none⟩) 4 4), (53, .int .i64 4), (54, .int .i64 3)] (by kernel_rfl) rfl ?_
 refine VL_end (by kernel_rfl) ?_
 refine VQ_round ?_
 refine VCL_round ?_
 refine VC_seq ?_
 refine VC_region ?_
 refine VL_pure 1 [4, 6, 9, 10, 45, 46, 11, 12, 13, 52, 53, 54, 55] [(4, .pointer (some ⟨b1, 0, none⟩)), (6, .int .i64 (bOr .i64 (IntKind.wrap .i64 ((bOr .i64 (IntKind.wrap .i64 ((bOr .i64 (IntKind.wrap .i64 ((bOr .i64 0 (IntKind.wrap .i64 (bs.getD 0 0))) * 2 ^ 8)) (IntKind.wrap .i64 (bs.getD 1 0))) * 2 ^ 8)) (IntKind.wrap .i64 (bs.getD 2 0))) * 2 ^ 8)) (IntKind.wrap .i64 (bs.getD 3 0)))), (9, .pointer (some ⟨b2, 0, none⟩)), (10, .pointer (some ⟨b3, 0, none⟩)), (45, .agg #[.pointer (some ⟨b2, 0, none⟩), .pointer (some ⟨b2, 1, none⟩), .pointer (some ⟨b2, 2, none⟩), .pointer (some ⟨b2, 3, none⟩), .pointer (some ⟨b2, 4, none⟩)]), (46, .int .i64 0), (11, .int .i64 0), (12, .pointer (some ⟨b2, 0, none⟩)), (13, .int .i64 27), (52, .slice (some ⟨b3, 1, none⟩) 4 4), (53, .int .i64 4), (54, .int .i64 3), (55, .bool true)] (by kernel_rfl) rfl ?_
 refine VL_end (by kernel_rfl) ?_
 refine VQ_next ?_
 refine VC_seq ?_
 refine VC_true (by kernel_rfl) ?_
 refine VC_skip ?_
 refine VQ_next ?_
 refine VC_seq ?_
 refine VC_block ?_
 refine VC_seq ?_
 refine VC_region ?_
 refine VL_index (d := 56) (b := b3) (o := 1) (len := 4) (sz := 1) (m := 3) (by kernel_rfl) (by kernel_rfl) 3 (by rfl) (by omega) 4 (by omega) ?_
 refine VL_load (d := 57) (t := 3) (a := ⟨b3, 4, none⟩) (v := .int .i64 1) (by kernel_rfl) (by kernel_rfl) (Loads.own1 ho4 (by kernel_rfl) (by rfl)) ?_
 refine VL_pure 3 [4, 6, 9, 10, 45, 46, 11, 12, 13, 52, 53, 54, 15] [(4, .pointer (some ⟨b1, 0, none⟩)), (6, .int .i64 (bOr .i64 (IntKind.wrap .i64 ((bOr .i64 (IntKind.wrap .i64 ((bOr .i64 (IntKind.wrap .i64 ((bOr .i64 0 (IntKind.wrap .i64 (bs.getD 0 0))) * 2 ^ 8)) (IntKind.wrap .i64 (bs.getD 1 0))) * 2 ^ 8)) (IntKind.wrap .i64 (bs.getD 2 0))) * 2 ^ 8)) (IntKind.wrap .i64 (bs.getD 3 0)))), (9, .pointer (some ⟨b2, 0, none⟩)), (10, .pointer (some ⟨b3, 0, none⟩)), (45, .agg #[.pointer (some ⟨b2, 0, none⟩), .pointer (some ⟨b2, 1, none⟩), .pointer (some ⟨b2, 2, none⟩), .pointer (some ⟨b2, 3, none⟩), .pointer (some ⟨b2, 4, none⟩)]), (46, .int .i64 0), (11, .int .i64 0), (12, .pointer (some ⟨b2, 0, none⟩)), (13, .int .i64 27), (52, .slice (some ⟨b3, 1, none⟩) 4 4), (53, .int .i64 4), (54, .int .i64 3), (15, .int .i64 1)] (by kernel_rfl) rfl ?_
 refine VL_end (by kernel_rfl) ?_
 refine VQ_next ?_
 refine VC_region ?_
 refine VL_pure 4 [4, 6, 9, 10, 45, 46, 11, 12, 13, 52, 53, 54] [(4, .pointer (some ⟨b1, 0, none⟩)), (6, .int .i64 (bOr .i64 (IntKind.wrap .i64 ((bOr .i64 (IntKind.wrap .i64 ((bOr .i64 (IntKind.wrap .i64 ((bOr .i64 0 (IntKind.wrap .i64 (bs.getD 0 0))) * 2 ^ 8)) (IntKind.wrap .i64 (bs.getD 1 0))) * 2 ^ 8)) (IntKind.wrap .i64 (bs.getD 2 0))) * 2 ^ 8)) (IntKind.wrap .i64 (bs.getD 3 0)))), (9, .pointer (some ⟨b2, 0, none⟩)), (10, .pointer (some ⟨b3, 0, none⟩)), (45, .agg #[.pointer (some ⟨b2, 0, none⟩), .pointer (some ⟨b2, 1, none⟩), .pointer (some ⟨b2, 2, none⟩), .pointer (some ⟨b2, 3, none⟩), .pointer (some ⟨b2, 4, none⟩)]), (46, .int .i64 0), (11, .int .i64 0), (12, .pointer (some ⟨b2, 0, none⟩)), (13, .int .i64 28), (52, .slice (some ⟨b3, 1, none⟩) 4 4), (53, .int .i64 4), (54, .int .i64 3)] (by kernel_rfl) rfl ?_
 refine VL_end (by kernel_rfl) ?_
 refine VQ_block_normal ?_
 refine VQ_next ?_
 refine VC_region ?_
 refine VL_pure 2 [4, 6, 9, 10, 45, 46, 11, 12, 13, 52, 53, 54] [(4, .pointer (some ⟨b1, 0, none⟩)), (6, .int .i64 (bOr .i64 (IntKind.wrap .i64 ((bOr .i64 (IntKind.wrap .i64 ((bOr .i64 (IntKind.wrap .i64 ((bOr .i64 0 (IntKind.wrap .i64 (bs.getD 0 0))) * 2 ^ 8)) (IntKind.wrap .i64 (bs.getD 1 0))) * 2 ^ 8)) (IntKind.wrap .i64 (bs.getD 2 0))) * 2 ^ 8)) (IntKind.wrap .i64 (bs.getD 3 0)))), (9, .pointer (some ⟨b2, 0, none⟩)), (10, .pointer (some ⟨b3, 0, none⟩)), (45, .agg #[.pointer (some ⟨b2, 0, none⟩), .pointer (some ⟨b2, 1, none⟩), .pointer (some ⟨b2, 2, none⟩), .pointer (some ⟨b2, 3, none⟩), .pointer (some ⟨b2, 4, none⟩)]), (46, .int .i64 0), (11, .int .i64 0), (12, .pointer (some ⟨b2, 0, none⟩)), (13, .int .i64 28), (52, .slice (some ⟨b3, 1, none⟩) 4 4), (53, .int .i64 4), (54, .int .i64 4)] (by kernel_rfl) rfl ?_
 refine VL_end (by kernel_rfl) ?_
 refine VQ_round ?_
 refine VCL_round ?_
 refine VC_seq ?_
 refine VC_region ?_
 refine VL_pure 1 [4, 6, 9, 10, 45, 46, 11, 12, 13, 52, 53, 54, 55] [(4, .pointer (some ⟨b1, 0, none⟩)), (6, .int .i64 (bOr .i64 (IntKind.wrap .i64 ((bOr .i64 (IntKind.wrap .i64 ((bOr .i64 (IntKind.wrap .i64 ((bOr .i64 0 (IntKind.wrap .i64 (bs.getD 0 0))) * 2 ^ 8)) (IntKind.wrap .i64 (bs.getD 1 0))) * 2 ^ 8)) (IntKind.wrap .i64 (bs.getD 2 0))) * 2 ^ 8)) (IntKind.wrap .i64 (bs.getD 3 0)))), (9, .pointer (some ⟨b2, 0, none⟩)), (10, .pointer (some ⟨b3, 0, none⟩)), (45, .agg #[.pointer (some ⟨b2, 0, none⟩), .pointer (some ⟨b2, 1, none⟩), .pointer (some ⟨b2, 2, none⟩), .pointer (some ⟨b2, 3, none⟩), .pointer (some ⟨b2, 4, none⟩)]), (46, .int .i64 0), (11, .int .i64 0), (12, .pointer (some ⟨b2, 0, none⟩)), (13, .int .i64 28), (52, .slice (some ⟨b3, 1, none⟩) 4 4), (53, .int .i64 4), (54, .int .i64 4), (55, .bool false)] (by kernel_rfl) rfl ?_
 refine VL_end (by kernel_rfl) ?_
 refine VQ_next ?_
 refine VC_seq ?_
 refine VC_false (by kernel_rfl) ?_
 refine VC_exit ?_
 refine VQ_then_exit ?_
 refine VQ_then_exit ?_
 refine VQ_block_hit ?_
 refine VQ_next ?_
 refine VC_det [[], [], [], [1, 2], [], [4], [4, 5], [4, 5, 6], [4, 5, 6, 7], [1, 2, 3, 4, 5, 6, 7, 8], [0, 1, 2, 3, 4, 5, 6, 7, 8, 9], [0, 1, 2, 3, 4, 5, 6, 7, 8, 9, 10]] 10 [.pointer (some ⟨b2, 0, none⟩), .int .i64 (bOr .i64 (IntKind.wrap .i64 ((bOr .i64 (IntKind.wrap .i64 ((bOr .i64 (IntKind.wrap .i64 ((bOr .i64 0 (IntKind.wrap .i64 (bs.getD 0 0))) * 2 ^ 8)) (IntKind.wrap .i64 (bs.getD 1 0))) * 2 ^ 8)) (IntKind.wrap .i64 (bs.getD 2 0))) * 2 ^ 8)) (IntKind.wrap .i64 (bs.getD 3 0))), .int .i64 28, .int .i64 ((bOr .i64 (IntKind.wrap .i64 ((bOr .i64 (IntKind.wrap .i64 ((bOr .i64 (IntKind.wrap .i64 ((bOr .i64 0 (IntKind.wrap .i64 (bs.getD 0 0))) * 2 ^ 8)) (IntKind.wrap .i64 (bs.getD 1 0))) * 2 ^ 8)) (IntKind.wrap .i64 (bs.getD 2 0))) * 2 ^ 8)) (IntKind.wrap .i64 (bs.getD 3 0))).fdiv (2 ^ 28)), .int .i64 0, .pointer (some ⟨b3, 0, none⟩), .int .i64 4, .int .i64 16, .int .i64 15, .int .i64 (bAnd .i64 ((bOr .i64 (IntKind.wrap .i64 ((bOr .i64 (IntKind.wrap .i64 ((bOr .i64 (IntKind.wrap .i64 ((bOr .i64 0 (IntKind.wrap .i64 (bs.getD 0 0))) * 2 ^ 8)) (IntKind.wrap .i64 (bs.getD 1 0))) * 2 ^ 8)) (IntKind.wrap .i64 (bs.getD 2 0))) * 2 ^ 8)) (IntKind.wrap .i64 (bs.getD 3 0))).fdiv (2 ^ 28)) 15)] [0, 1, 2, 3, 4, 7, 8, 9] [5, 6] (by kernel_rfl) (by kernel_rfl) (by kernel_rfl) (by kernel_rfl) ?_ ?_
 ·intro w6 hs1
  replace ho4 := ho4.no hs1
  exact ⟨Det1_index (d := 67) (b := b3) (o := 0) (len := 5) (sz := 1) (m := 0) (by kernel_rfl) (by kernel_rfl) 0 (by rfl) (by omega) 0 (by omega), Det1_load (d := 68) (t := 3) (a := ⟨b3, 0, none⟩) (by kernel_rfl) (by kernel_rfl) (Loads.own1 ho4 (by kernel_rfl) (by rfl)), trivial⟩
 intro w6 hs1
 replace hS := Step.trans hS hs1
 replace ho1 := ho1.no hs1
 replace ho2 := ho2.no hs1
 replace ho4 := ho4.no hs1
 refine VL_keep [4, 6, 9, 10, 45, 46, 62, 71] [(4, .pointer (some ⟨b1, 0, none⟩)), (6, .int .i64 (bOr .i64 (IntKind.wrap .i64 ((bOr .i64 (IntKind.wrap .i64 ((bOr .i64 (IntKind.wrap .i64 ((bOr .i64 0 (IntKind.wrap .i64 (bs.getD 0 0))) * 2 ^ 8)) (IntKind.wrap .i64 (bs.getD 1 0))) * 2 ^ 8)) (IntKind.wrap .i64 (bs.getD 2 0))) * 2 ^ 8)) (IntKind.wrap .i64 (bs.getD 3 0)))), (9, .pointer (some ⟨b2, 0, none⟩)), (10, .pointer (some ⟨b3, 0, none⟩)), (45, .agg #[.pointer (some ⟨b2, 0, none⟩), .pointer (some ⟨b2, 1, none⟩), .pointer (some ⟨b2, 2, none⟩), .pointer (some ⟨b2, 3, none⟩), .pointer (some ⟨b2, 4, none⟩)]), (46, .int .i64 0), (62, .pointer (some ⟨b2, 0, none⟩)), (71, .int .i64 (bAnd .i64 ((bOr .i64 (IntKind.wrap .i64 ((bOr .i64 (IntKind.wrap .i64 ((bOr .i64 (IntKind.wrap .i64 ((bOr .i64 0 (IntKind.wrap .i64 (bs.getD 0 0))) * 2 ^ 8)) (IntKind.wrap .i64 (bs.getD 1 0))) * 2 ^ 8)) (IntKind.wrap .i64 (bs.getD 2 0))) * 2 ^ 8)) (IntKind.wrap .i64 (bs.getD 3 0))).fdiv (2 ^ 28)) 15))] (by kernel_rfl) ?_
 refine VL_pure 11 [4, 6, 9, 10, 45, 46, 71, 72] [(4, .pointer (some ⟨b1, 0, none⟩)), (6, .int .i64 (bOr .i64 (IntKind.wrap .i64 ((bOr .i64 (IntKind.wrap .i64 ((bOr .i64 (IntKind.wrap .i64 ((bOr .i64 0 (IntKind.wrap .i64 (bs.getD 0 0))) * 2 ^ 8)) (IntKind.wrap .i64 (bs.getD 1 0))) * 2 ^ 8)) (IntKind.wrap .i64 (bs.getD 2 0))) * 2 ^ 8)) (IntKind.wrap .i64 (bs.getD 3 0)))), (9, .pointer (some ⟨b2, 0, none⟩)), (10, .pointer (some ⟨b3, 0, none⟩)), (45, .agg #[.pointer (some ⟨b2, 0, none⟩), .pointer (some ⟨b2, 1, none⟩), .pointer (some ⟨b2, 2, none⟩), .pointer (some ⟨b2, 3, none⟩), .pointer (some ⟨b2, 4, none⟩)]), (46, .int .i64 0), (71, .int .i64 (bAnd .i64 ((bOr .i64 (IntKind.wrap .i64 ((bOr .i64 (IntKind.wrap .i64 ((bOr .i64 (IntKind.wrap .i64 ((bOr .i64 0 (IntKind.wrap .i64 (bs.getD 0 0))) * 2 ^ 8)) (IntKind.wrap .i64 (bs.getD 1 0))) * 2 ^ 8)) (IntKind.wrap .i64 (bs.getD 2 0))) * 2 ^ 8)) (IntKind.wrap .i64 (bs.getD 3 0))).fdiv (2 ^ 28)) 15)), (72, .pointer (some ⟨b2, 0, none⟩))] (by kernel_rfl) rfl ?_
 refine VL_store (b := b2) (o := 0) (vs := [.int .i64 (bAnd .i64 ((bOr .i64 (IntKind.wrap .i64 ((bOr .i64 (IntKind.wrap .i64 ((bOr .i64 (IntKind.wrap .i64 ((bOr .i64 0 (IntKind.wrap .i64 (bs.getD 0 0))) * 2 ^ 8)) (IntKind.wrap .i64 (bs.getD 1 0))) * 2 ^ 8)) (IntKind.wrap .i64 (bs.getD 2 0))) * 2 ^ 8)) (IntKind.wrap .i64 (bs.getD 3 0))).fdiv (2 ^ 28)) 15)]) (by kernel_rfl) (by kernel_rfl) ho2 (Nat.le_of_ble_eq_true (by kernel_rfl)) ?_
 intro w7 hw2
 replace hS := Step.transNew hS hw2.step (fun _ _ _ => by omega)
 replace ho1 := ho1.step hw2.step (show ¬ b1 = b2 by omega)
 replace ho4 := ho4.step hw2.step (show ¬ b3 = b2 by omega)
 have ho5 : Own w7 b2 #[.int .i64 (bAnd .i64 ((bOr .i64 (IntKind.wrap .i64 ((bOr .i64 (IntKind.wrap .i64 ((bOr .i64 (IntKind.wrap .i64 ((bOr .i64 0 (IntKind.wrap .i64 (bs.getD 0 0))) * 2 ^ 8)) (IntKind.wrap .i64 (bs.getD 1 0))) * 2 ^ 8)) (IntKind.wrap .i64 (bs.getD 2 0))) * 2 ^ 8)) (IntKind.wrap .i64 (bs.getD 3 0))).fdiv (2 ^ 28)) 15), .int .i64 0, .int .i64 0, .int .i64 0, .int .i64 0] 40 := Own.cast hw2.own (by kernel_rfl)
 refine VL_end (by kernel_rfl) ?_
 refine VQ_block_normal ?_
 refine VQ_next ?_
 refine VC_region ?_
 refine VL_pure 2 [4, 6, 9, 10, 45, 46] [(4, .pointer (some ⟨b1, 0, none⟩)), (6, .int .i64 (bOr .i64 (IntKind.wrap .i64 ((bOr .i64 (IntKind.wrap .i64 ((bOr .i64 (IntKind.wrap .i64 ((bOr .i64 0 (IntKind.wrap .i64 (bs.getD 0 0))) * 2 ^ 8)) (IntKind.wrap .i64 (bs.getD 1 0))) * 2 ^ 8)) (IntKind.wrap .i64 (bs.getD 2 0))) * 2 ^ 8)) (IntKind.wrap .i64 (bs.getD 3 0)))), (9, .pointer (some ⟨b2, 0, none⟩)), (10, .pointer (some ⟨b3, 0, none⟩)), (45, .agg #[.pointer (some ⟨b2, 0, none⟩), .pointer (some ⟨b2, 1, none⟩), .pointer (some ⟨b2, 2, none⟩), .pointer (some ⟨b2, 3, none⟩), .pointer (some ⟨b2, 4, none⟩)]), (46, .int .i64 1)] (by kernel_rfl) rfl ?_
 refine VL_end (by kernel_rfl) ?_
 refine VQ_round ?_
 refine VCL_round ?_
 refine VC_seq ?_
 refine VC_region ?_
 refine VL_pure 1 [4, 6, 9, 10, 45, 46, 47] [(4, .pointer (some ⟨b1, 0, none⟩)), (6, .int .i64 (bOr .i64 (IntKind.wrap .i64 ((bOr .i64 (IntKind.wrap .i64 ((bOr .i64 (IntKind.wrap .i64 ((bOr .i64 0 (IntKind.wrap .i64 (bs.getD 0 0))) * 2 ^ 8)) (IntKind.wrap .i64 (bs.getD 1 0))) * 2 ^ 8)) (IntKind.wrap .i64 (bs.getD 2 0))) * 2 ^ 8)) (IntKind.wrap .i64 (bs.getD 3 0)))), (9, .pointer (some ⟨b2, 0, none⟩)), (10, .pointer (some ⟨b3, 0, none⟩)), (45, .agg #[.pointer (some ⟨b2, 0, none⟩), .pointer (some ⟨b2, 1, none⟩), .pointer (some ⟨b2, 2, none⟩), .pointer (some ⟨b2, 3, none⟩), .pointer (some ⟨b2, 4, none⟩)]), (46, .int .i64 1), (47, .bool true)] (by kernel_rfl) rfl ?_
 refine VL_end (by kernel_rfl) ?_
 refine VQ_next ?_
 refine VC_seq ?_
 refine VC_true (by kernel_rfl) ?_
 refine VC_skip ?_
 refine VQ_next ?_
 refine VC_seq ?_
 refine VC_block ?_
 refine VC_seq ?_
 refine VC_region ?_
 refine VL_pure 4 [4, 6, 9, 10, 45, 46, 11, 12] [(4, .pointer (some ⟨b1, 0, none⟩)), (6, .int .i64 (bOr .i64 (IntKind.wrap .i64 ((bOr .i64 (IntKind.wrap .i64 ((bOr .i64 (IntKind.wrap .i64 ((bOr .i64 0 (IntKind.wrap .i64 (bs.getD 0 0))) * 2 ^ 8)) (IntKind.wrap .i64 (bs.getD 1 0))) * 2 ^ 8)) (IntKind.wrap .i64 (bs.getD 2 0))) * 2 ^ 8)) (IntKind.wrap .i64 (bs.getD 3 0)))), (9, .pointer (some ⟨b2, 0, none⟩)), (10, .pointer (some ⟨b3, 0, none⟩)), (45, .agg #[.pointer (some ⟨b2, 0, none⟩), .pointer (some ⟨b2, 1, none⟩), .pointer (some ⟨b2, 2, none⟩), .pointer (some ⟨b2, 3, none⟩), .pointer (some ⟨b2, 4, none⟩)]), (46, .int .i64 1), (11, .int .i64 1), (12, .pointer (some ⟨b2, 1, none⟩))] (by kernel_rfl) rfl ?_
 refine VL_end (by kernel_rfl) ?_
 refine VQ_next ?_
 refine VC_seq ?_
 refine VC_region ?_
 refine VL_pure 1 [4, 6, 9, 10, 45, 46, 11, 12, 13] [(4, .pointer (some ⟨b1, 0, none⟩)), (6, .int .i64 (bOr .i64 (IntKind.wrap .i64 ((bOr .i64 (IntKind.wrap .i64 ((bOr .i64 (IntKind.wrap .i64 ((bOr .i64 0 (IntKind.wrap .i64 (bs.getD 0 0))) * 2 ^ 8)) (IntKind.wrap .i64 (bs.getD 1 0))) * 2 ^ 8)) (IntKind.wrap .i64 (bs.getD 2 0))) * 2 ^ 8)) (IntKind.wrap .i64 (bs.getD 3 0)))), (9, .pointer (some ⟨b2, 0, none⟩)), (10, .pointer (some ⟨b3, 0, none⟩)), (45, .agg #[.pointer (some ⟨b2, 0, none⟩), .pointer (some ⟨b2, 1, none⟩), .pointer (some ⟨b2, 2, none⟩), .pointer (some ⟨b2, 3, none⟩), .pointer (some ⟨b2, 4, none⟩)]), (46, .int .i64 1), (11, .int .i64 1), (12, .pointer (some ⟨b2, 1, none⟩)), (13, .int .i64 0)] (by kernel_rfl) rfl ?_
 refine VL_end (by kernel_rfl) ?_
 refine VQ_next ?_
 refine VC_seq ?_
 refine VC_seq ?_
 refine VC_region ?_
 refine VL_pure 5 [4, 6, 9, 10, 45, 46, 11, 12, 13, 52, 53, 54] [(4, .pointer (some ⟨b1, 0, none⟩)), (6, .int .i64 (bOr .i64 (IntKind.wrap .i64 ((bOr .i64 (IntKind.wrap .i64 ((bOr .i64 (IntKind.wrap .i64 ((bOr .i64 0 (IntKind.wrap .i64 (bs.getD 0 0))) * 2 ^ 8)) (IntKind.wrap .i64 (bs.getD 1 0))) * 2 ^ 8)) (IntKind.wrap .i64 (bs.getD 2 0))) * 2 ^ 8)) (IntKind.wrap .i64 (bs.getD 3 0)))), (9, .pointer (some ⟨b2, 0, none⟩)), (10, .pointer (some ⟨b3, 0, none⟩)), (45, .agg #[.pointer (some ⟨b2, 0, none⟩), .pointer (some ⟨b2, 1, none⟩), .pointer (some ⟨b2, 2, none⟩), .pointer (some ⟨b2, 3, none⟩), .pointer (some ⟨b2, 4, none⟩)]), (46, .int .i64 1), (11, .int .i64 1), (12, .pointer (some ⟨b2, 1, none⟩)), (13, .int .i64 0), (52, .slice (some ⟨b3, 2, none⟩) 3 3), (53, .int .i64 3), (54, .int .i64 0)] (by kernel_rfl) rfl ?_
 refine VL_end (by kernel_rfl) ?_
 refine VQ_next ?_
 refine VC_block ?_
 refine VC_rounds ?_
 refine VCL_round ?_
 refine VC_seq ?_
 refine VC_region ?_
 refine VL_pure 1 [4, 6, 9, 10, 45, 46, 11, 12, 13, 52, 53, 54, 55] [(4, .pointer (some ⟨b1, 0, none⟩)), (6, .int .i64 (bOr .i64 (IntKind.wrap .i64 ((bOr .i64 (IntKind.wrap .i64 ((bOr .i64 (IntKind.wrap .i64 ((bOr .i64 0 (IntKind.wrap .i64 (bs.getD 0 0))) * 2 ^ 8)) (IntKind.wrap .i64 (bs.getD 1 0))) * 2 ^ 8)) (IntKind.wrap .i64 (bs.getD 2 0))) * 2 ^ 8)) (IntKind.wrap .i64 (bs.getD 3 0)))), (9, .pointer (some ⟨b2, 0, none⟩)), (10, .pointer (some ⟨b3, 0, none⟩)), (45, .agg #[.pointer (some ⟨b2, 0, none⟩), .pointer (some ⟨b2, 1, none⟩), .pointer (some ⟨b2, 2, none⟩), .pointer (some ⟨b2, 3, none⟩), .pointer (some ⟨b2, 4, none⟩)]), (46, .int .i64 1), (11, .int .i64 1), (12, .pointer (some ⟨b2, 1, none⟩)), (13, .int .i64 0), (52, .slice (some ⟨b3, 2, none⟩) 3 3), (53, .int .i64 3), (54, .int .i64 0), (55, .bool true)] (by kernel_rfl) rfl ?_
 refine VL_end (by kernel_rfl) ?_
 refine VQ_next ?_
 refine VC_seq ?_
 refine VC_true (by kernel_rfl) ?_
 refine VC_skip ?_
 refine VQ_next ?_
 refine VC_seq ?_
 refine VC_block ?_
 refine VC_seq ?_
 refine VC_region ?_
 refine VL_index (d := 56) (b := b3) (o := 2) (len := 3) (sz := 1) (m := 0) (by kernel_rfl) (by kernel_rfl) 0 (by rfl) (by omega) 2 (by omega) ?_
 refine VL_load (d := 57) (t := 3) (a := ⟨b3, 2, none⟩) (v := .int .i64 16) (by kernel_rfl) (by kernel_rfl) (Loads.own1 ho4 (by kernel_rfl) (by rfl)) ?_
 refine VL_pure 3 [4, 6, 9, 10, 45, 46, 11, 12, 13, 52, 53, 54, 15] [(4, .pointer (some ⟨b1, 0, none⟩)), (6, .int .i64 (bOr .i64 (IntKind.wrap .i64 ((bOr .i64 (IntKind.wrap .i64 ((bOr .i64 (IntKind.wrap .i64 ((bOr .i64 0 (IntKind.wrap .i64 (bs.getD 0 0))) * 2 ^ 8)) (IntKind.wrap .i64 (bs.getD 1 0))) * 2 ^ 8)) (IntKind.wrap .i64 (bs.getD 2 0))) * 2 ^ 8)) (IntKind.wrap .i64 (bs.getD 3 0)))), (9, .pointer (some ⟨b2, 0, none⟩)), (10, .pointer (some ⟨b3, 0, none⟩)), (45, .agg #[.pointer (some ⟨b2, 0, none⟩), .pointer (some ⟨b2, 1, none⟩), .pointer (some ⟨b2, 2, none⟩), .pointer (some ⟨b2, 3, none⟩), .pointer (some ⟨b2, 4, none⟩)]), (46, .int .i64 1), (11, .int .i64 1), (12, .pointer (some ⟨b2, 1, none⟩)), (13, .int .i64 0), (52, .slice (some ⟨b3, 2, none⟩) 3 3), (53, .int .i64 3), (54, .int .i64 0), (15, .int .i64 16)] (by kernel_rfl) rfl ?_
 refine VL_end (by kernel_rfl) ?_
 refine VQ_next ?_
 refine VC_region ?_
 refine VL_pure 4 [4, 6, 9, 10, 45, 46, 11, 12, 13, 52, 53, 54] [(4, .pointer (some ⟨b1, 0, none⟩)), (6, .int .i64 (bOr .i64 (IntKind.wrap .i64 ((bOr .i64 (IntKind.wrap .i64 ((bOr .i64 (IntKind.wrap .i64 ((bOr .i64 0 (IntKind.wrap .i64 (bs.getD 0 0))) * 2 ^ 8)) (IntKind.wrap .i64 (bs.getD 1 0))) * 2 ^ 8)) (IntKind.wrap .i64 (bs.getD 2 0))) * 2 ^ 8)) (IntKind.wrap .i64 (bs.getD 3 0)))), (9, .pointer (some ⟨b2, 0, none⟩)), (10, .pointer (some ⟨b3, 0, none⟩)), (45, .agg #[.pointer (some ⟨b2, 0, none⟩), .pointer (some ⟨b2, 1, none⟩), .pointer (some ⟨b2, 2, none⟩), .pointer (some ⟨b2, 3, none⟩), .pointer (some ⟨b2, 4, none⟩)]), (46, .int .i64 1), (11, .int .i64 1), (12, .pointer (some ⟨b2, 1, none⟩)), (13, .int .i64 16), (52, .slice (some ⟨b3, 2, none⟩) 3 3), (53, .int .i64 3), (54, .int .i64 0)] (by kernel_rfl) rfl ?_
 refine VL_end (by kernel_rfl) ?_
 refine VQ_block_normal ?_
 refine VQ_next ?_
 refine VC_region ?_
 refine VL_pure 2 [4, 6, 9, 10, 45, 46, 11, 12, 13, 52, 53, 54] [(4, .pointer (some ⟨b1, 0, none⟩)), (6, .int .i64 (bOr .i64 (IntKind.wrap .i64 ((bOr .i64 (IntKind.wrap .i64 ((bOr .i64 (IntKind.wrap .i64 ((bOr .i64 0 (IntKind.wrap .i64 (bs.getD 0 0))) * 2 ^ 8)) (IntKind.wrap .i64 (bs.getD 1 0))) * 2 ^ 8)) (IntKind.wrap .i64 (bs.getD 2 0))) * 2 ^ 8)) (IntKind.wrap .i64 (bs.getD 3 0)))), (9, .pointer (some ⟨b2, 0, none⟩)), (10, .pointer (some ⟨b3, 0, none⟩)), (45, .agg #[.pointer (some ⟨b2, 0, none⟩), .pointer (some ⟨b2, 1, none⟩), .pointer (some ⟨b2, 2, none⟩), .pointer (some ⟨b2, 3, none⟩), .pointer (some ⟨b2, 4, none⟩)]), (46, .int .i64 1), (11, .int .i64 1), (12, .pointer (some ⟨b2, 1, none⟩)), (13, .int .i64 16), (52, .slice (some ⟨b3, 2, none⟩) 3 3), (53, .int .i64 3), (54, .int .i64 1)] (by kernel_rfl) rfl ?_
 refine VL_end (by kernel_rfl) ?_
 refine VQ_round ?_
 refine VCL_round ?_
 refine VC_seq ?_
 refine VC_region ?_
 refine VL_pure 1 [4, 6, 9, 10, 45, 46, 11, 12, 13, 52, 53, 54, 55] [(4, .pointer (some ⟨b1, 0, none⟩)), (6, .int .i64 (bOr .i64 (IntKind.wrap .i64 ((bOr .i64 (IntKind.wrap .i64 ((bOr .i64 (IntKind.wrap .i64 ((bOr .i64 0 (IntKind.wrap .i64 (bs.getD 0 0))) * 2 ^ 8)) (IntKind.wrap .i64 (bs.getD 1 0))) * 2 ^ 8)) (IntKind.wrap .i64 (bs.getD 2 0))) * 2 ^ 8)) (IntKind.wrap .i64 (bs.getD 3 0)))), (9, .pointer (some ⟨b2, 0, none⟩)), (10, .pointer (some ⟨b3, 0, none⟩)), (45, .agg #[.pointer (some ⟨b2, 0, none⟩), .pointer (some ⟨b2, 1, none⟩), .pointer (some ⟨b2, 2, none⟩), .pointer (some ⟨b2, 3, none⟩), .pointer (some ⟨b2, 4, none⟩)]), (46, .int .i64 1), (11, .int .i64 1), (12, .pointer (some ⟨b2, 1, none⟩)), (13, .int .i64 16), (52, .slice (some ⟨b3, 2, none⟩) 3 3), (53, .int .i64 3), (54, .int .i64 1), (55, .bool true)] (by kernel_rfl) rfl ?_
 refine VL_end (by kernel_rfl) ?_
 refine VQ_next ?_
 refine VC_seq ?_
 refine VC_true (by kernel_rfl) ?_
 refine VC_skip ?_
 refine VQ_next ?_
 refine VC_seq ?_
 refine VC_block ?_
 refine VC_seq ?_
 refine VC_region ?_
 refine VL_index (d := 56) (b := b3) (o := 2) (len := 3) (sz := 1) (m := 1) (by kernel_rfl) (by kernel_rfl) 1 (by rfl) (by omega) 3 (by omega) ?_
 refine VL_load (d := 57) (t := 3) (a := ⟨b3, 3, none⟩) (v := .int .i64 3) (by kernel_rfl) (by kernel_rfl) (Loads.own1 ho4 (by kernel_rfl) (by rfl)) ?_
 refine VL_pure 3 [4, 6, 9, 10, 45, 46, 11, 12, 13, 52, 53, 54, 15] [(4, .pointer (some ⟨b1, 0, none⟩)), (6, .int .i64 (bOr .i64 (IntKind.wrap .i64 ((bOr .i64 (IntKind.wrap .i64 ((bOr .i64 (IntKind.wrap .i64 ((bOr .i64 0 (IntKind.wrap .i64 (bs.getD 0 0))) * 2 ^ 8)) (IntKind.wrap .i64 (bs.getD 1 0))) * 2 ^ 8)) (IntKind.wrap .i64 (bs.getD 2 0))) * 2 ^ 8)) (IntKind.wrap .i64 (bs.getD 3 0)))), (9, .pointer (some ⟨b2, 0, none⟩)), (10, .pointer (some ⟨b3, 0, none⟩)), (45, .agg #[.pointer (some ⟨b2, 0, none⟩), .pointer (some ⟨b2, 1, none⟩), .pointer (some ⟨b2, 2, none⟩), .pointer (some ⟨b2, 3, none⟩), .pointer (some ⟨b2, 4, none⟩)]), (46, .int .i64 1), (11, .int .i64 1), (12, .pointer (some ⟨b2, 1, none⟩)), (13, .int .i64 16), (52, .slice (some ⟨b3, 2, none⟩) 3 3), (53, .int .i64 3), (54, .int .i64 1), (15, .int .i64 3)] (by kernel_rfl) rfl ?_
 refine VL_end (by kernel_rfl) ?_
 refine VQ_next ?_
 refine VC_region ?_
 refine VL_pure 4 [4, 6, 9, 10, 45, 46, 11, 12, 13, 52, 53, 54] [(4, .pointer (some ⟨b1, 0, none⟩)), (6, .int .i64 (bOr .i64 (IntKind.wrap .i64 ((bOr .i64 (IntKind.wrap .i64 ((bOr .i64 (IntKind.wrap .i64 ((bOr .i64 0 (IntKind.wrap .i64 (bs.getD 0 0))) * 2 ^ 8)) (IntKind.wrap .i64 (bs.getD 1 0))) * 2 ^ 8)) (IntKind.wrap .i64 (bs.getD 2 0))) * 2 ^ 8)) (IntKind.wrap .i64 (bs.getD 3 0)))), (9, .pointer (some ⟨b2, 0, none⟩)), (10, .pointer (some ⟨b3, 0, none⟩)), (45, .agg #[.pointer (some ⟨b2, 0, none⟩), .pointer (some ⟨b2, 1, none⟩), .pointer (some ⟨b2, 2, none⟩), .pointer (some ⟨b2, 3, none⟩), .pointer (some ⟨b2, 4, none⟩)]), (46, .int .i64 1), (11, .int .i64 1), (12, .pointer (some ⟨b2, 1, none⟩)), (13, .int .i64 19), (52, .slice (some ⟨b3, 2, none⟩) 3 3), (53, .int .i64 3), (54, .int .i64 1)] (by kernel_rfl) rfl ?_
 refine VL_end (by kernel_rfl) ?_
 refine VQ_block_normal ?_
 refine VQ_next ?_
 refine VC_region ?_
 refine VL_pure 2 [4, 6, 9, 10, 45, 46, 11, 12, 13, 52, 53, 54] [(4, .pointer (some ⟨b1, 0, none⟩)), (6, .int .i64 (bOr .i64 (IntKind.wrap .i64 ((bOr .i64 (IntKind.wrap .i64 ((bOr .i64 (IntKind.wrap .i64 ((bOr .i64 0 (IntKind.wrap .i64 (bs.getD 0 0))) * 2 ^ 8)) (IntKind.wrap .i64 (bs.getD 1 0))) * 2 ^ 8)) (IntKind.wrap .i64 (bs.getD 2 0))) * 2 ^ 8)) (IntKind.wrap .i64 (bs.getD 3 0)))), (9, .pointer (some ⟨b2, 0, none⟩)), (10, .pointer (some ⟨b3, 0, none⟩)), (45, .agg #[.pointer (some ⟨b2, 0, none⟩), .pointer (some ⟨b2, 1, none⟩), .pointer (some ⟨b2, 2, none⟩), .pointer (some ⟨b2, 3, none⟩), .pointer (some ⟨b2, 4, none⟩)]), (46, .int .i64 1), (11, .int .i64 1), (12, .pointer (some ⟨b2, 1, none⟩)), (13, .int .i64 19), (52, .slice (some ⟨b3, 2, none⟩) 3 3), (53, .int .i64 3), (54, .int .i64 2)] (by kernel_rfl) rfl ?_
 refine VL_end (by kernel_rfl) ?_
 refine VQ_round ?_
 refine VCL_round ?_
 refine VC_seq ?_
 refine VC_region ?_
 refine VL_pure 1 [4, 6, 9, 10, 45, 46, 11, 12, 13, 52, 53, 54, 55] [(4, .pointer (some ⟨b1, 0, none⟩)), (6, .int .i64 (bOr .i64 (IntKind.wrap .i64 ((bOr .i64 (IntKind.wrap .i64 ((bOr .i64 (IntKind.wrap .i64 ((bOr .i64 0 (IntKind.wrap .i64 (bs.getD 0 0))) * 2 ^ 8)) (IntKind.wrap .i64 (bs.getD 1 0))) * 2 ^ 8)) (IntKind.wrap .i64 (bs.getD 2 0))) * 2 ^ 8)) (IntKind.wrap .i64 (bs.getD 3 0)))), (9, .pointer (some ⟨b2, 0, none⟩)), (10, .pointer (some ⟨b3, 0, none⟩)), (45, .agg #[.pointer (some ⟨b2, 0, none⟩), .pointer (some ⟨b2, 1, none⟩), .pointer (some ⟨b2, 2, none⟩), .pointer (some ⟨b2, 3, none⟩), .pointer (some ⟨b2, 4, none⟩)]), (46, .int .i64 1), (11, .int .i64 1), (12, .pointer (some ⟨b2, 1, none⟩)), (13, .int .i64 19), (52, .slice (some ⟨b3, 2, none⟩) 3 3), (53, .int .i64 3), (54, .int .i64 2), (55, .bool true)] (by kernel_rfl) rfl ?_
 refine VL_end (by kernel_rfl) ?_
 refine VQ_next ?_
 refine VC_seq ?_
 refine VC_true (by kernel_rfl) ?_
 refine VC_skip ?_
 refine VQ_next ?_
 refine VC_seq ?_
 refine VC_block ?_
 refine VC_seq ?_
 refine VC_region ?_
 refine VL_index (d := 56) (b := b3) (o := 2) (len := 3) (sz := 1) (m := 2) (by kernel_rfl) (by kernel_rfl) 2 (by rfl) (by omega) 4 (by omega) ?_
 refine VL_load (d := 57) (t := 3) (a := ⟨b3, 4, none⟩) (v := .int .i64 1) (by kernel_rfl) (by kernel_rfl) (Loads.own1 ho4 (by kernel_rfl) (by rfl)) ?_
 refine VL_pure 3 [4, 6, 9, 10, 45, 46, 11, 12, 13, 52, 53, 54, 15] [(4, .pointer (some ⟨b1, 0, none⟩)), (6, .int .i64 (bOr .i64 (IntKind.wrap .i64 ((bOr .i64 (IntKind.wrap .i64 ((bOr .i64 (IntKind.wrap .i64 ((bOr .i64 0 (IntKind.wrap .i64 (bs.getD 0 0))) * 2 ^ 8)) (IntKind.wrap .i64 (bs.getD 1 0))) * 2 ^ 8)) (IntKind.wrap .i64 (bs.getD 2 0))) * 2 ^ 8)) (IntKind.wrap .i64 (bs.getD 3 0)))), (9, .pointer (some ⟨b2, 0, none⟩)), (10, .pointer (some ⟨b3, 0, none⟩)), (45, .agg #[.pointer (some ⟨b2, 0, none⟩), .pointer (some ⟨b2, 1, none⟩), .pointer (some ⟨b2, 2, none⟩), .pointer (some ⟨b2, 3, none⟩), .pointer (some ⟨b2, 4, none⟩)]), (46, .int .i64 1), (11, .int .i64 1), (12, .pointer (some ⟨b2, 1, none⟩)), (13, .int .i64 19), (52, .slice (some ⟨b3, 2, none⟩) 3 3), (53, .int .i64 3), (54, .int .i64 2), (15, .int .i64 1)] (by kernel_rfl) rfl ?_
 refine VL_end (by kernel_rfl) ?_
 refine VQ_next ?_
 refine VC_region ?_
 refine VL_pure 4 [4, 6, 9, 10, 45, 46, 11, 12, 13, 52, 53, 54] [(4, .pointer (some ⟨b1, 0, none⟩)), (6, .int .i64 (bOr .i64 (IntKind.wrap .i64 ((bOr .i64 (IntKind.wrap .i64 ((bOr .i64 (IntKind.wrap .i64 ((bOr .i64 0 (IntKind.wrap .i64 (bs.getD 0 0))) * 2 ^ 8)) (IntKind.wrap .i64 (bs.getD 1 0))) * 2 ^ 8)) (IntKind.wrap .i64 (bs.getD 2 0))) * 2 ^ 8)) (IntKind.wrap .i64 (bs.getD 3 0)))), (9, .pointer (some ⟨b2, 0, none⟩)), (10, .pointer (some ⟨b3, 0, none⟩)), (45, .agg #[.pointer (some ⟨b2, 0, none⟩), .pointer (some ⟨b2, 1, none⟩), .pointer (some ⟨b2, 2, none⟩), .pointer (some ⟨b2, 3, none⟩), .pointer (some ⟨b2, 4, none⟩)]), (46, .int .i64 1), (11, .int .i64 1), (12, .pointer (some ⟨b2, 1, none⟩)), (13, .int .i64 20), (52, .slice (some ⟨b3, 2, none⟩) 3 3), (53, .int .i64 3), (54, .int .i64 2)] (by kernel_rfl) rfl ?_
 refine VL_end (by kernel_rfl) ?_
 refine VQ_block_normal ?_
 refine VQ_next ?_
 refine VC_region ?_
 refine VL_pure 2 [4, 6, 9, 10, 45, 46, 11, 12, 13, 52, 53, 54] [(4, .pointer (some ⟨b1, 0, none⟩)), (6, .int .i64 (bOr .i64 (IntKind.wrap .i64 ((bOr .i64 (IntKind.wrap .i64 ((bOr .i64 (IntKind.wrap .i64 ((bOr .i64 0 (IntKind.wrap .i64 (bs.getD 0 0))) * 2 ^ 8)) (IntKind.wrap .i64 (bs.getD 1 0))) * 2 ^ 8)) (IntKind.wrap .i64 (bs.getD 2 0))) * 2 ^ 8)) (IntKind.wrap .i64 (bs.getD 3 0)))), (9, .pointer (some ⟨b2, 0, none⟩)), (10, .pointer (some ⟨b3, 0, none⟩)), (45, .agg #[.pointer (some ⟨b2, 0, none⟩), .pointer (some ⟨b2, 1, none⟩), .pointer (some ⟨b2, 2, none⟩), .pointer (some ⟨b2, 3, none⟩), .pointer (some ⟨b2, 4, none⟩)]), (46, .int .i64 1), (11, .int .i64 1), (12, .pointer (some ⟨b2, 1, none⟩)), (13, .int .i64 20), (52, .slice (some ⟨b3, 2, none⟩) 3 3), (53, .int .i64 3), (54, .int .i64 3)] (by kernel_rfl) rfl ?_
 refine VL_end (by kernel_rfl) ?_
 refine VQ_round ?_
 refine VCL_round ?_
 refine VC_seq ?_
 refine VC_region ?_
 refine VL_pure 1 [4, 6, 9, 10, 45, 46, 11, 12, 13, 52, 53, 54, 55] [(4, .pointer (some ⟨b1, 0, none⟩)), (6, .int .i64 (bOr .i64 (IntKind.wrap .i64 ((bOr .i64 (IntKind.wrap .i64 ((bOr .i64 (IntKind.wrap .i64 ((bOr .i64 0 (IntKind.wrap .i64 (bs.getD 0 0))) * 2 ^ 8)) (IntKind.wrap .i64 (bs.getD 1 0))) * 2 ^ 8)) (IntKind.wrap .i64 (bs.getD 2 0))) * 2 ^ 8)) (IntKind.wrap .i64 (bs.getD 3 0)))), (9, .pointer (some ⟨b2, 0, none⟩)), (10, .pointer (some ⟨b3, 0, none⟩)), (45, .agg #[.pointer (some ⟨b2, 0, none⟩), .pointer (some ⟨b2, 1, none⟩), .pointer (some ⟨b2, 2, none⟩), .pointer (some ⟨b2, 3, none⟩), .pointer (some ⟨b2, 4, none⟩)]), (46, .int .i64 1), (11, .int .i64 1), (12, .pointer (some ⟨b2, 1, none⟩)), (13, .int .i64 20), (52, .slice (some ⟨b3, 2, none⟩) 3 3), (53, .int .i64 3), (54, .int .i64 3), (55, .bool false)] (by kernel_rfl) rfl ?_
 refine VL_end (by kernel_rfl) ?_
 refine VQ_next ?_
 refine VC_seq ?_
 refine VC_false (by kernel_rfl) ?_
 refine VC_exit ?_
 refine VQ_then_exit ?_
 refine VQ_then_exit ?_
 refine VQ_block_hit ?_
 refine VQ_next ?_
 refine VC_det [[], [], [], [1, 2], [], [4], [4, 5], [4, 5, 6], [4, 5, 6, 7], [1, 2, 3, 4, 5, 6, 7, 8], [0, 1, 2, 3, 4, 5, 6, 7, 8, 9], [0, 1, 2, 3, 4, 5, 6, 7, 8, 9, 10]] 10 [.pointer (some ⟨b2, 1, none⟩), .int .i64 (bOr .i64 (IntKind.wrap .i64 ((bOr .i64 (IntKind.wrap .i64 ((bOr .i64 (IntKind.wrap .i64 ((bOr .i64 0 (IntKind.wrap .i64 (bs.getD 0 0))) * 2 ^ 8)) (IntKind.wrap .i64 (bs.getD 1 0))) * 2 ^ 8)) (IntKind.wrap .i64 (bs.getD 2 0))) * 2 ^ 8)) (IntKind.wrap .i64 (bs.getD 3 0))), .int .i64 20, .int .i64 ((bOr .i64 (IntKind.wrap .i64 ((bOr .i64 (IntKind.wrap .i64 ((bOr .i64 (IntKind.wrap .i64 ((bOr .i64 0 (IntKind.wrap .i64 (bs.getD 0 0))) * 2 ^ 8)) (IntKind.wrap .i64 (bs.getD 1 0))) * 2 ^ 8)) (IntKind.wrap .i64 (bs.getD 2 0))) * 2 ^ 8)) (IntKind.wrap .i64 (bs.getD 3 0))).fdiv (2 ^ 20)), .int .i64 1, .pointer (some ⟨b3, 1, none⟩), .int .i64 8, .int .i64 256, .int .i64 255, .int .i64 (bAnd .i64 ((bOr .i64 (IntKind.wrap .i64 ((bOr .i64 (IntKind.wrap .i64 ((bOr .i64 (IntKind.wrap .i64 ((bOr .i64 0 (IntKind.wrap .i64 (bs.getD 0 0))) * 2 ^ 8)) (IntKind.wrap .i64 (bs.getD 1 0))) * 2 ^ 8)) (IntKind.wrap .i64 (bs.getD 2 0))) * 2 ^ 8)) (IntKind.wrap .i64 (bs.getD 3 0))).fdiv (2 ^ 20)) 255)] [0, 1, 2, 3, 4, 7, 8, 9] [5, 6] (by kernel_rfl) (by kernel_rfl) (by kernel_rfl) (by kernel_rfl) ?_ ?_
 ·intro w8 hs2
  replace ho4 := ho4.no hs2
  exact ⟨Det1_index (d := 67) (b := b3) (o := 0) (len := 5) (sz := 1) (m := 1) (by kernel_rfl) (by kernel_rfl) 1 (by rfl) (by omega) 1 (by omega), Det1_load (d := 68) (t := 3) (a := ⟨b3, 1, none⟩) (by kernel_rfl) (by kernel_rfl) (Loads.own1 ho4 (by kernel_rfl) (by rfl)), trivial⟩
 intro w8 hs2
 replace hS := Step.trans hS hs2
 replace ho1 := ho1.no hs2
 replace ho4 := ho4.no hs2
 replace ho5 := ho5.no hs2
 refine VL_keep [4, 6, 9, 10, 45, 46, 62, 71] [(4, .pointer (some ⟨b1, 0, none⟩)), (6, .int .i64 (bOr .i64 (IntKind.wrap .i64 ((bOr .i64 (IntKind.wrap .i64 ((bOr .i64 (IntKind.wrap .i64 ((bOr .i64 0 (IntKind.wrap .i64 (bs.getD 0 0))) * 2 ^ 8)) (IntKind.wrap .i64 (bs.getD 1 0))) * 2 ^ 8)) (IntKind.wrap .i64 (bs.getD 2 0))) * 2 ^ 8)) (IntKind.wrap .i64 (bs.getD 3 0)))), (9, .pointer (some ⟨b2, 0, none⟩)), (10, .pointer (some ⟨b3, 0, none⟩)), (45, .agg #[.pointer (some ⟨b2, 0, none⟩), .pointer (some ⟨b2, 1, none⟩), .pointer (some ⟨b2, 2, none⟩), .pointer (some ⟨b2, 3, none⟩), .pointer (some ⟨b2, 4, none⟩)]), (46, .int .i64 1), (62, .pointer (some ⟨b2, 1, none⟩)), (71, .int .i64 (bAnd .i64 ((bOr .i64 (IntKind.wrap .i64 ((bOr .i64 (IntKind.wrap .i64 ((bOr .i64 (IntKind.wrap .i64 ((bOr .i64 0 (IntKind.wrap .i64 (bs.getD 0 0))) * 2 ^ 8)) (IntKind.wrap .i64 (bs.getD 1 0))) * 2 ^ 8)) (IntKind.wrap .i64 (bs.getD 2 0))) * 2 ^ 8)) (IntKind.wrap .i64 (bs.getD 3 0))).fdiv (2 ^ 20)) 255))] (by kernel_rfl) ?_
 refine VL_pure 11 [4, 6, 9, 10, 45, 46, 71, 72] [(4, .pointer (some ⟨b1, 0, none⟩)), (6, .int .i64 (bOr .i64 (IntKind.wrap .i64 ((bOr .i64 (IntKind.wrap .i64 ((bOr .i64 (IntKind.wrap .i64 ((bOr .i64 0 (IntKind.wrap .i64 (bs.getD 0 0))) * 2 ^ 8)) (IntKind.wrap .i64 (bs.getD 1 0))) * 2 ^ 8)) (IntKind.wrap .i64 (bs.getD 2 0))) * 2 ^ 8)) (IntKind.wrap .i64 (bs.getD 3 0)))), (9, .pointer (some ⟨b2, 0, none⟩)), (10, .pointer (some ⟨b3, 0, none⟩)), (45, .agg #[.pointer (some ⟨b2, 0, none⟩), .pointer (some ⟨b2, 1, none⟩), .pointer (some ⟨b2, 2, none⟩), .pointer (some ⟨b2, 3, none⟩), .pointer (some ⟨b2, 4, none⟩)]), (46, .int .i64 1), (71, .int .i64 (bAnd .i64 ((bOr .i64 (IntKind.wrap .i64 ((bOr .i64 (IntKind.wrap .i64 ((bOr .i64 (IntKind.wrap .i64 ((bOr .i64 0 (IntKind.wrap .i64 (bs.getD 0 0))) * 2 ^ 8)) (IntKind.wrap .i64 (bs.getD 1 0))) * 2 ^ 8)) (IntKind.wrap .i64 (bs.getD 2 0))) * 2 ^ 8)) (IntKind.wrap .i64 (bs.getD 3 0))).fdiv (2 ^ 20)) 255)), (72, .pointer (some ⟨b2, 1, none⟩))] (by kernel_rfl) rfl ?_
 refine VL_store (b := b2) (o := 1) (vs := [.int .i64 (bAnd .i64 ((bOr .i64 (IntKind.wrap .i64 ((bOr .i64 (IntKind.wrap .i64 ((bOr .i64 (IntKind.wrap .i64 ((bOr .i64 0 (IntKind.wrap .i64 (bs.getD 0 0))) * 2 ^ 8)) (IntKind.wrap .i64 (bs.getD 1 0))) * 2 ^ 8)) (IntKind.wrap .i64 (bs.getD 2 0))) * 2 ^ 8)) (IntKind.wrap .i64 (bs.getD 3 0))).fdiv (2 ^ 20)) 255)]) (by kernel_rfl) (by kernel_rfl) ho5 (Nat.le_of_ble_eq_true (by kernel_rfl)) ?_
 intro w9 hw3
 replace hS := Step.transNew hS hw3.step (fun _ _ _ => by omega)
 replace ho1 := ho1.step hw3.step (show ¬ b1 = b2 by omega)
 replace ho4 := ho4.step hw3.step (show ¬ b3 = b2 by omega)
 have ho6 : Own w9 b2 #[.int .i64 (bAnd .i64 ((bOr .i64 (IntKind.wrap .i64 ((bOr .i64 (IntKind.wrap .i64 ((bOr .i64 (IntKind.wrap .i64 ((bOr .i64 0 (IntKind.wrap .i64 (bs.getD 0 0))) * 2 ^ 8)) (IntKind.wrap .i64 (bs.getD 1 0))) * 2 ^ 8)) (IntKind.wrap .i64 (bs.getD 2 0))) * 2 ^ 8)) (IntKind.wrap .i64 (bs.getD 3 0))).fdiv (2 ^ 28)) 15), .int .i64 (bAnd .i64 ((bOr .i64 (IntKind.wrap .i64 ((bOr .i64 (IntKind.wrap .i64 ((bOr .i64 (IntKind.wrap .i64 ((bOr .i64 0 (IntKind.wrap .i64 (bs.getD 0 0))) * 2 ^ 8)) (IntKind.wrap .i64 (bs.getD 1 0))) * 2 ^ 8)) (IntKind.wrap .i64 (bs.getD 2 0))) * 2 ^ 8)) (IntKind.wrap .i64 (bs.getD 3 0))).fdiv (2 ^ 20)) 255), .int .i64 0, .int .i64 0, .int .i64 0] 40 := Own.cast hw3.own (by kernel_rfl)
 refine VL_end (by kernel_rfl) ?_
 refine VQ_block_normal ?_
 refine VQ_next ?_
 refine VC_region ?_
 refine VL_pure 2 [4, 6, 9, 10, 45, 46] [(4, .pointer (some ⟨b1, 0, none⟩)), (6, .int .i64 (bOr .i64 (IntKind.wrap .i64 ((bOr .i64 (IntKind.wrap .i64 ((bOr .i64 (IntKind.wrap .i64 ((bOr .i64 0 (IntKind.wrap .i64 (bs.getD 0 0))) * 2 ^ 8)) (IntKind.wrap .i64 (bs.getD 1 0))) * 2 ^ 8)) (IntKind.wrap .i64 (bs.getD 2 0))) * 2 ^ 8)) (IntKind.wrap .i64 (bs.getD 3 0)))), (9, .pointer (some ⟨b2, 0, none⟩)), (10, .pointer (some ⟨b3, 0, none⟩)), (45, .agg #[.pointer (some ⟨b2, 0, none⟩), .pointer (some ⟨b2, 1, none⟩), .pointer (some ⟨b2, 2, none⟩), .pointer (some ⟨b2, 3, none⟩), .pointer (some ⟨b2, 4, none⟩)]), (46, .int .i64 2)] (by kernel_rfl) rfl ?_
 refine VL_end (by kernel_rfl) ?_
 refine VQ_round ?_
 refine VCL_round ?_
 refine VC_seq ?_
 refine VC_region ?_
 refine VL_pure 1 [4, 6, 9, 10, 45, 46, 47] [(4, .pointer (some ⟨b1, 0, none⟩)), (6, .int .i64 (bOr .i64 (IntKind.wrap .i64 ((bOr .i64 (IntKind.wrap .i64 ((bOr .i64 (IntKind.wrap .i64 ((bOr .i64 0 (IntKind.wrap .i64 (bs.getD 0 0))) * 2 ^ 8)) (IntKind.wrap .i64 (bs.getD 1 0))) * 2 ^ 8)) (IntKind.wrap .i64 (bs.getD 2 0))) * 2 ^ 8)) (IntKind.wrap .i64 (bs.getD 3 0)))), (9, .pointer (some ⟨b2, 0, none⟩)), (10, .pointer (some ⟨b3, 0, none⟩)), (45, .agg #[.pointer (some ⟨b2, 0, none⟩), .pointer (some ⟨b2, 1, none⟩), .pointer (some ⟨b2, 2, none⟩), .pointer (some ⟨b2, 3, none⟩), .pointer (some ⟨b2, 4, none⟩)]), (46, .int .i64 2), (47, .bool true)] (by kernel_rfl) rfl ?_
 refine VL_end (by kernel_rfl) ?_
 refine VQ_next ?_
 refine VC_seq ?_
 refine VC_true (by kernel_rfl) ?_
 refine VC_skip ?_
 refine VQ_next ?_
 refine VC_seq ?_
 refine VC_block ?_
 refine VC_seq ?_
 refine VC_region ?_
 refine VL_pure 4 [4, 6, 9, 10, 45, 46, 11, 12] [(4, .pointer (some ⟨b1, 0, none⟩)), (6, .int .i64 (bOr .i64 (IntKind.wrap .i64 ((bOr .i64 (IntKind.wrap .i64 ((bOr .i64 (IntKind.wrap .i64 ((bOr .i64 0 (IntKind.wrap .i64 (bs.getD 0 0))) * 2 ^ 8)) (IntKind.wrap .i64 (bs.getD 1 0))) * 2 ^ 8)) (IntKind.wrap .i64 (bs.getD 2 0))) * 2 ^ 8)) (IntKind.wrap .i64 (bs.getD 3 0)))), (9, .pointer (some ⟨b2, 0, none⟩)), (10, .pointer (some ⟨b3, 0, none⟩)), (45, .agg #[.pointer (some ⟨b2, 0, none⟩), .pointer (some ⟨b2, 1, none⟩), .pointer (some ⟨b2, 2, none⟩), .pointer (some ⟨b2, 3, none⟩), .pointer (some ⟨b2, 4, none⟩)]), (46, .int .i64 2), (11, .int .i64 2), (12, .pointer (some ⟨b2, 2, none⟩))] (by kernel_rfl) rfl ?_
 refine VL_end (by kernel_rfl) ?_
 refine VQ_next ?_
 refine VC_seq ?_
 refine VC_region ?_
 refine VL_pure 1 [4, 6, 9, 10, 45, 46, 11, 12, 13] [(4, .pointer (some ⟨b1, 0, none⟩)), (6, .int .i64 (bOr .i64 (IntKind.wrap .i64 ((bOr .i64 (IntKind.wrap .i64 ((bOr .i64 (IntKind.wrap .i64 ((bOr .i64 0 (IntKind.wrap .i64 (bs.getD 0 0))) * 2 ^ 8)) (IntKind.wrap .i64 (bs.getD 1 0))) * 2 ^ 8)) (IntKind.wrap .i64 (bs.getD 2 0))) * 2 ^ 8)) (IntKind.wrap .i64 (bs.getD 3 0)))), (9, .pointer (some ⟨b2, 0, none⟩)), (10, .pointer (some ⟨b3, 0, none⟩)), (45, .agg #[.pointer (some ⟨b2, 0, none⟩), .pointer (some ⟨b2, 1, none⟩), .pointer (some ⟨b2, 2, none⟩), .pointer (some ⟨b2, 3, none⟩), .pointer (some ⟨b2, 4, none⟩)]), (46, .int .i64 2), (11, .int .i64 2), (12, .pointer (some ⟨b2, 2, none⟩)), (13, .int .i64 0)] (by kernel_rfl) rfl ?_
 refine VL_end (by kernel_rfl) ?_
 refine VQ_next ?_
 refine VC_seq ?_
 refine VC_seq ?_
 refine VC_region ?_
 refine VL_pure 5 [4, 6, 9, 10, 45, 46, 11, 12, 13, 52, 53, 54] [(4, .pointer (some ⟨b1, 0, none⟩)), (6, .int .i64 (bOr .i64 (IntKind.wrap .i64 ((bOr .i64 (IntKind.wrap .i64 ((bOr .i64 (IntKind.wrap .i64 ((bOr .i64 0 (IntKind.wrap .i64 (bs.getD 0 0))) * 2 ^ 8)) (IntKind.wrap .i64 (bs.getD 1 0))) * 2 ^ 8)) (IntKind.wrap .i64 (bs.getD 2 0))) * 2 ^ 8)) (IntKind.wrap .i64 (bs.getD 3 0)))), (9, .pointer (some ⟨b2, 0, none⟩)), (10, .pointer (some ⟨b3, 0, none⟩)), (45, .agg #[.pointer (some ⟨b2, 0, none⟩), .pointer (some ⟨b2, 1, none⟩), .pointer (some ⟨b2, 2, none⟩), .pointer (some ⟨b2, 3, none⟩), .pointer (some ⟨b2, 4, none⟩)]), (46, .int .i64 2), (11, .int .i64 2), (12, .pointer (some ⟨b2, 2, none⟩)), (13, .int .i64 0), (52, .slice (some ⟨b3, 3, none⟩) 2 2), (53, .int .i64 2), (54, .int .i64 0)] (by kernel_rfl) rfl ?_
 refine VL_end (by kernel_rfl) ?_
 refine VQ_next ?_
 refine VC_block ?_
 refine VC_rounds ?_
 refine VCL_round ?_
 refine VC_seq ?_
 refine VC_region ?_
 refine VL_pure 1 [4, 6, 9, 10, 45, 46, 11, 12, 13, 52, 53, 54, 55] [(4, .pointer (some ⟨b1, 0, none⟩)), (6, .int .i64 (bOr .i64 (IntKind.wrap .i64 ((bOr .i64 (IntKind.wrap .i64 ((bOr .i64 (IntKind.wrap .i64 ((bOr .i64 0 (IntKind.wrap .i64 (bs.getD 0 0))) * 2 ^ 8)) (IntKind.wrap .i64 (bs.getD 1 0))) * 2 ^ 8)) (IntKind.wrap .i64 (bs.getD 2 0))) * 2 ^ 8)) (IntKind.wrap .i64 (bs.getD 3 0)))), (9, .pointer (some ⟨b2, 0, none⟩)), (10, .pointer (some ⟨b3, 0, none⟩)), (45, .agg #[.pointer (some ⟨b2, 0, none⟩), .pointer (some ⟨b2, 1, none⟩), .pointer (some ⟨b2, 2, none⟩), .pointer (some ⟨b2, 3, none⟩), .pointer (some ⟨b2, 4, none⟩)]), (46, .int .i64 2), (11, .int .i64 2), (12, .pointer (some ⟨b2, 2, none⟩)), (13, .int .i64 0), (52, .slice (some ⟨b3, 3, none⟩) 2 2), (53, .int .i64 2), (54, .int .i64 0), (55, .bool true)] (by kernel_rfl) rfl ?_
 refine VL_end (by kernel_rfl) ?_
 refine VQ_next ?_
 refine VC_seq ?_
 refine VC_true (by kernel_rfl) ?_
 refine VC_skip ?_
 refine VQ_next ?_
 refine VC_seq ?_
 refine VC_block ?_
 refine VC_seq ?_
 refine VC_region ?_
 refine VL_index (d := 56) (b := b3) (o := 3) (len := 2) (sz := 1) (m := 0) (by kernel_rfl) (by kernel_rfl) 0 (by rfl) (by omega) 3 (by omega) ?_
 refine VL_load (d := 57) (t := 3) (a := ⟨b3, 3, none⟩) (v := .int .i64 3) (by kernel_rfl) (by kernel_rfl) (Loads.own1 ho4 (by kernel_rfl) (by rfl)) ?_
 refine VL_pure 3 [4, 6, 9, 10, 45, 46, 11, 12, 13, 52, 53, 54, 15] [(4, .pointer (some ⟨b1, 0, none⟩)), (6, .int .i64 (bOr .i64 (IntKind.wrap .i64 ((bOr .i64 (IntKind.wrap .i64 ((bOr .i64 (IntKind.wrap .i64 ((bOr .i64 0 (IntKind.wrap .i64 (bs.getD 0 0))) * 2 ^ 8)) (IntKind.wrap .i64 (bs.getD 1 0))) * 2 ^ 8)) (IntKind.wrap .i64 (bs.getD 2 0))) * 2 ^ 8)) (IntKind.wrap .i64 (bs.getD 3 0)))), (9, .pointer (some ⟨b2, 0, none⟩)), (10, .pointer (some ⟨b3, 0, none⟩)), (45, .agg #[.pointer (some ⟨b2, 0, none⟩), .pointer (some ⟨b2, 1, none⟩), .pointer (some ⟨b2, 2, none⟩), .pointer (some ⟨b2, 3, none⟩), .pointer (some ⟨b2, 4, none⟩)]), (46, .int .i64 2), (11, .int .i64 2), (12, .pointer (some ⟨b2, 2, none⟩)), (13, .int .i64 0), (52, .slice (some ⟨b3, 3, none⟩) 2 2), (53, .int .i64 2), (54, .int .i64 0), (15, .int .i64 3)] (by kernel_rfl) rfl ?_
 refine VL_end (by kernel_rfl) ?_
 refine VQ_next ?_
 refine VC_region ?_
 refine VL_pure 4 [4, 6, 9, 10, 45, 46, 11, 12, 13, 52, 53, 54] [(4, .pointer (some ⟨b1, 0, none⟩)), (6, .int .i64 (bOr .i64 (IntKind.wrap .i64 ((bOr .i64 (IntKind.wrap .i64 ((bOr .i64 (IntKind.wrap .i64 ((bOr .i64 0 (IntKind.wrap .i64 (bs.getD 0 0))) * 2 ^ 8)) (IntKind.wrap .i64 (bs.getD 1 0))) * 2 ^ 8)) (IntKind.wrap .i64 (bs.getD 2 0))) * 2 ^ 8)) (IntKind.wrap .i64 (bs.getD 3 0)))), (9, .pointer (some ⟨b2, 0, none⟩)), (10, .pointer (some ⟨b3, 0, none⟩)), (45, .agg #[.pointer (some ⟨b2, 0, none⟩), .pointer (some ⟨b2, 1, none⟩), .pointer (some ⟨b2, 2, none⟩), .pointer (some ⟨b2, 3, none⟩), .pointer (some ⟨b2, 4, none⟩)]), (46, .int .i64 2), (11, .int .i64 2), (12, .pointer (some ⟨b2, 2, none⟩)), (13, .int .i64 3), (52, .slice (some ⟨b3, 3, none⟩) 2 2), (53, .int .i64 2), (54, .int .i64 0)] (by kernel_rfl) rfl ?_
 refine VL_end (by kernel_rfl) ?_
 refine VQ_block_normal ?_
 refine VQ_next ?_
 refine VC_region ?_
 refine VL_pure 2 [4, 6, 9, 10, 45, 46, 11, 12, 13, 52, 53, 54] [(4, .pointer (some ⟨b1, 0, none⟩)), (6, .int .i64 (bOr .i64 (IntKind.wrap .i64 ((bOr .i64 (IntKind.wrap .i64 ((bOr .i64 (IntKind.wrap .i64 ((bOr .i64 0 (IntKind.wrap .i64 (bs.getD 0 0))) * 2 ^ 8)) (IntKind.wrap .i64 (bs.getD 1 0))) * 2 ^ 8)) (IntKind.wrap .i64 (bs.getD 2 0))) * 2 ^ 8)) (IntKind.wrap .i64 (bs.getD 3 0)))), (9, .pointer (some ⟨b2, 0, none⟩)), (10, .pointer (some ⟨b3, 0, none⟩)), (45, .agg #[.pointer (some ⟨b2, 0, none⟩), .pointer (some ⟨b2, 1, none⟩), .pointer (some ⟨b2, 2, none⟩), .pointer (some ⟨b2, 3, none⟩), .pointer (some ⟨b2, 4, none⟩)]), (46, .int .i64 2), (11, .int .i64 2), (12, .pointer (some ⟨b2, 2, none⟩)), (13, .int .i64 3), (52, .slice (some ⟨b3, 3, none⟩) 2 2), (53, .int .i64 2), (54, .int .i64 1)] (by kernel_rfl) rfl ?_
 refine VL_end (by kernel_rfl) ?_
 refine VQ_round ?_
 refine VCL_round ?_
 refine VC_seq ?_
 refine VC_region ?_
 refine VL_pure 1 [4, 6, 9, 10, 45, 46, 11, 12, 13, 52, 53, 54, 55] [(4, .pointer (some ⟨b1, 0, none⟩)), (6, .int .i64 (bOr .i64 (IntKind.wrap .i64 ((bOr .i64 (IntKind.wrap .i64 ((bOr .i64 (IntKind.wrap .i64 ((bOr .i64 0 (IntKind.wrap .i64 (bs.getD 0 0))) * 2 ^ 8)) (IntKind.wrap .i64 (bs.getD 1 0))) * 2 ^ 8)) (IntKind.wrap .i64 (bs.getD 2 0))) * 2 ^ 8)) (IntKind.wrap .i64 (bs.getD 3 0)))), (9, .pointer (some ⟨b2, 0, none⟩)), (10, .pointer (some ⟨b3, 0, none⟩)), (45, .agg #[.pointer (some ⟨b2, 0, none⟩), .pointer (some ⟨b2, 1, none⟩), .pointer (some ⟨b2, 2, none⟩), .pointer (some ⟨b2, 3, none⟩), .pointer (some ⟨b2, 4, none⟩)]), (46, .int .i64 2), (11, .int .i64 2), (12, .pointer (some ⟨b2, 2, none⟩)), (13, .int .i64 3), (52, .slice (some ⟨b3, 3, none⟩) 2 2), (53, .int .i64 2), (54, .int .i64 1), (55, .bool true)] (by kernel_rfl) rfl ?_
 refine VL_end (by kernel_rfl) ?_
 refine VQ_next ?_
 refine VC_seq ?_
 refine VC_true (by kernel_rfl) ?_
 refine VC_skip ?_
 refine VQ_next ?_
 refine VC_seq ?_
 refine VC_block ?_
 refine VC_seq ?_
 refine VC_region ?_
 refine VL_index (d := 56) (b := b3) (o := 3) (len := 2) (sz := 1) (m := 1) (by kernel_rfl) (by kernel_rfl) 1 (by rfl) (by omega) 4 (by omega) ?_
 refine VL_load (d := 57) (t := 3) (a := ⟨b3, 4, none⟩) (v := .int .i64 1) (by kernel_rfl) (by kernel_rfl) (Loads.own1 ho4 (by kernel_rfl) (by rfl)) ?_
 refine VL_pure 3 [4, 6, 9, 10, 45, 46, 11, 12, 13, 52, 53, 54, 15] [(4, .pointer (some ⟨b1, 0, none⟩)), (6, .int .i64 (bOr .i64 (IntKind.wrap .i64 ((bOr .i64 (IntKind.wrap .i64 ((bOr .i64 (IntKind.wrap .i64 ((bOr .i64 0 (IntKind.wrap .i64 (bs.getD 0 0))) * 2 ^ 8)) (IntKind.wrap .i64 (bs.getD 1 0))) * 2 ^ 8)) (IntKind.wrap .i64 (bs.getD 2 0))) * 2 ^ 8)) (IntKind.wrap .i64 (bs.getD 3 0)))), (9, .pointer (some ⟨b2, 0, none⟩)), (10, .pointer (some ⟨b3, 0, none⟩)), (45, .agg #[.pointer (some ⟨b2, 0, none⟩), .pointer (some ⟨b2, 1, none⟩), .pointer (some ⟨b2, 2, none⟩), .pointer (some ⟨b2, 3, none⟩), .pointer (some ⟨b2, 4, none⟩)]), (46, .int .i64 2), (11, .int .i64 2), (12, .pointer (some ⟨b2, 2, none⟩)), (13, .int .i64 3), (52, .slice (some ⟨b3, 3, none⟩) 2 2), (53, .int .i64 2), (54, .int .i64 1), (15, .int .i64 1)] (by kernel_rfl) rfl ?_
 refine VL_end (by kernel_rfl) ?_
 refine VQ_next ?_
 refine VC_region ?_
 refine VL_pure 4 [4, 6, 9, 10, 45, 46, 11, 12, 13, 52, 53, 54] [(4, .pointer (some ⟨b1, 0, none⟩)), (6, .int .i64 (bOr .i64 (IntKind.wrap .i64 ((bOr .i64 (IntKind.wrap .i64 ((bOr .i64 (IntKind.wrap .i64 ((bOr .i64 0 (IntKind.wrap .i64 (bs.getD 0 0))) * 2 ^ 8)) (IntKind.wrap .i64 (bs.getD 1 0))) * 2 ^ 8)) (IntKind.wrap .i64 (bs.getD 2 0))) * 2 ^ 8)) (IntKind.wrap .i64 (bs.getD 3 0)))), (9, .pointer (some ⟨b2, 0, none⟩)), (10, .pointer (some ⟨b3, 0, none⟩)), (45, .agg #[.pointer (some ⟨b2, 0, none⟩), .pointer (some ⟨b2, 1, none⟩), .pointer (some ⟨b2, 2, none⟩), .pointer (some ⟨b2, 3, none⟩), .pointer (some ⟨b2, 4, none⟩)]), (46, .int .i64 2), (11, .int .i64 2), (12, .pointer (some ⟨b2, 2, none⟩)), (13, .int .i64 4), (52, .slice (some ⟨b3, 3, none⟩) 2 2), (53, .int .i64 2), (54, .int .i64 1)] (by kernel_rfl) rfl ?_
 refine VL_end (by kernel_rfl) ?_
 refine VQ_block_normal ?_
 refine VQ_next ?_
 refine VC_region ?_
 refine VL_pure 2 [4, 6, 9, 10, 45, 46, 11, 12, 13, 52, 53, 54] [(4, .pointer (some ⟨b1, 0, none⟩)), (6, .int .i64 (bOr .i64 (IntKind.wrap .i64 ((bOr .i64 (IntKind.wrap .i64 ((bOr .i64 (IntKind.wrap .i64 ((bOr .i64 0 (IntKind.wrap .i64 (bs.getD 0 0))) * 2 ^ 8)) (IntKind.wrap .i64 (bs.getD 1 0))) * 2 ^ 8)) (IntKind.wrap .i64 (bs.getD 2 0))) * 2 ^ 8)) (IntKind.wrap .i64 (bs.getD 3 0)))), (9, .pointer (some ⟨b2, 0, none⟩)), (10, .pointer (some ⟨b3, 0, none⟩)), (45, .agg #[.pointer (some ⟨b2, 0, none⟩), .pointer (some ⟨b2, 1, none⟩), .pointer (some ⟨b2, 2, none⟩), .pointer (some ⟨b2, 3, none⟩), .pointer (some ⟨b2, 4, none⟩)]), (46, .int .i64 2), (11, .int .i64 2), (12, .pointer (some ⟨b2, 2, none⟩)), (13, .int .i64 4), (52, .slice (some ⟨b3, 3, none⟩) 2 2), (53, .int .i64 2), (54, .int .i64 2)] (by kernel_rfl) rfl ?_
 refine VL_end (by kernel_rfl) ?_
 refine VQ_round ?_
 refine VCL_round ?_
 refine VC_seq ?_
 refine VC_region ?_
 refine VL_pure 1 [4, 6, 9, 10, 45, 46, 11, 12, 13, 52, 53, 54, 55] [(4, .pointer (some ⟨b1, 0, none⟩)), (6, .int .i64 (bOr .i64 (IntKind.wrap .i64 ((bOr .i64 (IntKind.wrap .i64 ((bOr .i64 (IntKind.wrap .i64 ((bOr .i64 0 (IntKind.wrap .i64 (bs.getD 0 0))) * 2 ^ 8)) (IntKind.wrap .i64 (bs.getD 1 0))) * 2 ^ 8)) (IntKind.wrap .i64 (bs.getD 2 0))) * 2 ^ 8)) (IntKind.wrap .i64 (bs.getD 3 0)))), (9, .pointer (some ⟨b2, 0, none⟩)), (10, .pointer (some ⟨b3, 0, none⟩)), (45, .agg #[.pointer (some ⟨b2, 0, none⟩), .pointer (some ⟨b2, 1, none⟩), .pointer (some ⟨b2, 2, none⟩), .pointer (some ⟨b2, 3, none⟩), .pointer (some ⟨b2, 4, none⟩)]), (46, .int .i64 2), (11, .int .i64 2), (12, .pointer (some ⟨b2, 2, none⟩)), (13, .int .i64 4), (52, .slice (some ⟨b3, 3, none⟩) 2 2), (53, .int .i64 2), (54, .int .i64 2), (55, .bool false)] (by kernel_rfl) rfl ?_
 refine VL_end (by kernel_rfl) ?_
 refine VQ_next ?_
 refine VC_seq ?_
 refine VC_false (by kernel_rfl) ?_
 refine VC_exit ?_
 refine VQ_then_exit ?_
 refine VQ_then_exit ?_
 refine VQ_block_hit ?_
 refine VQ_next ?_
 refine VC_det [[], [], [], [1, 2], [], [4], [4, 5], [4, 5, 6], [4, 5, 6, 7], [1, 2, 3, 4, 5, 6, 7, 8], [0, 1, 2, 3, 4, 5, 6, 7, 8, 9], [0, 1, 2, 3, 4, 5, 6, 7, 8, 9, 10]] 10 [.pointer (some ⟨b2, 2, none⟩), .int .i64 (bOr .i64 (IntKind.wrap .i64 ((bOr .i64 (IntKind.wrap .i64 ((bOr .i64 (IntKind.wrap .i64 ((bOr .i64 0 (IntKind.wrap .i64 (bs.getD 0 0))) * 2 ^ 8)) (IntKind.wrap .i64 (bs.getD 1 0))) * 2 ^ 8)) (IntKind.wrap .i64 (bs.getD 2 0))) * 2 ^ 8)) (IntKind.wrap .i64 (bs.getD 3 0))), .int .i64 4, .int .i64 ((bOr .i64 (IntKind.wrap .i64 ((bOr .i64 (IntKind.wrap .i64 ((bOr .i64 (IntKind.wrap .i64 ((bOr .i64 0 (IntKind.wrap .i64 (bs.getD 0 0))) * 2 ^ 8)) (IntKind.wrap .i64 (bs.getD 1 0))) * 2 ^ 8)) (IntKind.wrap .i64 (bs.getD 2 0))) * 2 ^ 8)) (IntKind.wrap .i64 (bs.getD 3 0))).fdiv (2 ^ 4)), .int .i64 2, .pointer (some ⟨b3, 2, none⟩), .int .i64 16, .int .i64 65536, .int .i64 65535, .int .i64 (bAnd .i64 ((bOr .i64 (IntKind.wrap .i64 ((bOr .i64 (IntKind.wrap .i64 ((bOr .i64 (IntKind.wrap .i64 ((bOr .i64 0 (IntKind.wrap .i64 (bs.getD 0 0))) * 2 ^ 8)) (IntKind.wrap .i64 (bs.getD 1 0))) * 2 ^ 8)) (IntKind.wrap .i64 (bs.getD 2 0))) * 2 ^ 8)) (IntKind.wrap .i64 (bs.getD 3 0))).fdiv (2 ^ 4)) 65535)] [0, 1, 2, 3, 4, 7, 8, 9] [5, 6] (by kernel_rfl) (by kernel_rfl) (by kernel_rfl) (by kernel_rfl) ?_ ?_
 ·intro w10 hs3
  replace ho4 := ho4.no hs3
  exact ⟨Det1_index (d := 67) (b := b3) (o := 0) (len := 5) (sz := 1) (m := 2) (by kernel_rfl) (by kernel_rfl) 2 (by rfl) (by omega) 2 (by omega), Det1_load (d := 68) (t := 3) (a := ⟨b3, 2, none⟩) (by kernel_rfl) (by kernel_rfl) (Loads.own1 ho4 (by kernel_rfl) (by rfl)), trivial⟩
 intro w10 hs3
 replace hS := Step.trans hS hs3
 replace ho1 := ho1.no hs3
 replace ho4 := ho4.no hs3
 replace ho6 := ho6.no hs3
 refine VL_keep [4, 6, 9, 10, 45, 46, 62, 71] [(4, .pointer (some ⟨b1, 0, none⟩)), (6, .int .i64 (bOr .i64 (IntKind.wrap .i64 ((bOr .i64 (IntKind.wrap .i64 ((bOr .i64 (IntKind.wrap .i64 ((bOr .i64 0 (IntKind.wrap .i64 (bs.getD 0 0))) * 2 ^ 8)) (IntKind.wrap .i64 (bs.getD 1 0))) * 2 ^ 8)) (IntKind.wrap .i64 (bs.getD 2 0))) * 2 ^ 8)) (IntKind.wrap .i64 (bs.getD 3 0)))), (9, .pointer (some ⟨b2, 0, none⟩)), (10, .pointer (some ⟨b3, 0, none⟩)), (45, .agg #[.pointer (some ⟨b2, 0, none⟩), .pointer (some ⟨b2, 1, none⟩), .pointer (some ⟨b2, 2, none⟩), .pointer (some ⟨b2, 3, none⟩), .pointer (some ⟨b2, 4, none⟩)]), (46, .int .i64 2), (62, .pointer (some ⟨b2, 2, none⟩)), (71, .int .i64 (bAnd .i64 ((bOr .i64 (IntKind.wrap .i64 ((bOr .i64 (IntKind.wrap .i64 ((bOr .i64 (IntKind.wrap .i64 ((bOr .i64 0 (IntKind.wrap .i64 (bs.getD 0 0))) * 2 ^ 8)) (IntKind.wrap .i64 (bs.getD 1 0))) * 2 ^ 8)) (IntKind.wrap .i64 (bs.getD 2 0))) * 2 ^ 8)) (IntKind.wrap .i64 (bs.getD 3 0))).fdiv (2 ^ 4)) 65535))] (by kernel_rfl) ?_
 refine VL_pure 11 [4, 6, 9, 10, 45, 46, 71, 72] [(4, .pointer (some ⟨b1, 0, none⟩)), (6, .int .i64 (bOr .i64 (IntKind.wrap .i64 ((bOr .i64 (IntKind.wrap .i64 ((bOr .i64 (IntKind.wrap .i64 ((bOr .i64 0 (IntKind.wrap .i64 (bs.getD 0 0))) * 2 ^ 8)) (IntKind.wrap .i64 (bs.getD 1 0))) * 2 ^ 8)) (IntKind.wrap .i64 (bs.getD 2 0))) * 2 ^ 8)) (IntKind.wrap .i64 (bs.getD 3 0)))), (9, .pointer (some ⟨b2, 0, none⟩)), (10, .pointer (some ⟨b3, 0, none⟩)), (45, .agg #[.pointer (some ⟨b2, 0, none⟩), .pointer (some ⟨b2, 1, none⟩), .pointer (some ⟨b2, 2, none⟩), .pointer (some ⟨b2, 3, none⟩), .pointer (some ⟨b2, 4, none⟩)]), (46, .int .i64 2), (71, .int .i64 (bAnd .i64 ((bOr .i64 (IntKind.wrap .i64 ((bOr .i64 (IntKind.wrap .i64 ((bOr .i64 (IntKind.wrap .i64 ((bOr .i64 0 (IntKind.wrap .i64 (bs.getD 0 0))) * 2 ^ 8)) (IntKind.wrap .i64 (bs.getD 1 0))) * 2 ^ 8)) (IntKind.wrap .i64 (bs.getD 2 0))) * 2 ^ 8)) (IntKind.wrap .i64 (bs.getD 3 0))).fdiv (2 ^ 4)) 65535)), (72, .pointer (some ⟨b2, 2, none⟩))] (by kernel_rfl) rfl ?_
 refine VL_store (b := b2) (o := 2) (vs := [.int .i64 (bAnd .i64 ((bOr .i64 (IntKind.wrap .i64 ((bOr .i64 (IntKind.wrap .i64 ((bOr .i64 (IntKind.wrap .i64 ((bOr .i64 0 (IntKind.wrap .i64 (bs.getD 0 0))) * 2 ^ 8)) (IntKind.wrap .i64 (bs.getD 1 0))) * 2 ^ 8)) (IntKind.wrap .i64 (bs.getD 2 0))) * 2 ^ 8)) (IntKind.wrap .i64 (bs.getD 3 0))).fdiv (2 ^ 4)) 65535)]) (by kernel_rfl) (by kernel_rfl) ho6 (Nat.le_of_ble_eq_true (by kernel_rfl)) ?_
 intro w11 hw4
 replace hS := Step.transNew hS hw4.step (fun _ _ _ => by omega)
 replace ho1 := ho1.step hw4.step (show ¬ b1 = b2 by omega)
 replace ho4 := ho4.step hw4.step (show ¬ b3 = b2 by omega)
 have ho7 : Own w11 b2 #[.int .i64 (bAnd .i64 ((bOr .i64 (IntKind.wrap .i64 ((bOr .i64 (IntKind.wrap .i64 ((bOr .i64 (IntKind.wrap .i64 ((bOr .i64 0 (IntKind.wrap .i64 (bs.getD 0 0))) * 2 ^ 8)) (IntKind.wrap .i64 (bs.getD 1 0))) * 2 ^ 8)) (IntKind.wrap .i64 (bs.getD 2 0))) * 2 ^ 8)) (IntKind.wrap .i64 (bs.getD 3 0))).fdiv (2 ^ 28)) 15), .int .i64 (bAnd .i64 ((bOr .i64 (IntKind.wrap .i64 ((bOr .i64 (IntKind.wrap .i64 ((bOr .i64 (IntKind.wrap .i64 ((bOr .i64 0 (IntKind.wrap .i64 (bs.getD 0 0))) * 2 ^ 8)) (IntKind.wrap .i64 (bs.getD 1 0))) * 2 ^ 8)) (IntKind.wrap .i64 (bs.getD 2 0))) * 2 ^ 8)) (IntKind.wrap .i64 (bs.getD 3 0))).fdiv (2 ^ 20)) 255), .int .i64 (bAnd .i64 ((bOr .i64 (IntKind.wrap .i64 ((bOr .i64 (IntKind.wrap .i64 ((bOr .i64 (IntKind.wrap .i64 ((bOr .i64 0 (IntKind.wrap .i64 (bs.getD 0 0))) * 2 ^ 8)) (IntKind.wrap .i64 (bs.getD 1 0))) * 2 ^ 8)) (IntKind.wrap .i64 (bs.getD 2 0))) * 2 ^ 8)) (IntKind.wrap .i64 (bs.getD 3 0))).fdiv (2 ^ 4)) 65535), .int .i64 0, .int .i64 0] 40 := Own.cast hw4.own (by kernel_rfl)
 refine VL_end (by kernel_rfl) ?_
 refine VQ_block_normal ?_
 refine VQ_next ?_
 refine VC_region ?_
 refine VL_pure 2 [4, 6, 9, 10, 45, 46] [(4, .pointer (some ⟨b1, 0, none⟩)), (6, .int .i64 (bOr .i64 (IntKind.wrap .i64 ((bOr .i64 (IntKind.wrap .i64 ((bOr .i64 (IntKind.wrap .i64 ((bOr .i64 0 (IntKind.wrap .i64 (bs.getD 0 0))) * 2 ^ 8)) (IntKind.wrap .i64 (bs.getD 1 0))) * 2 ^ 8)) (IntKind.wrap .i64 (bs.getD 2 0))) * 2 ^ 8)) (IntKind.wrap .i64 (bs.getD 3 0)))), (9, .pointer (some ⟨b2, 0, none⟩)), (10, .pointer (some ⟨b3, 0, none⟩)), (45, .agg #[.pointer (some ⟨b2, 0, none⟩), .pointer (some ⟨b2, 1, none⟩), .pointer (some ⟨b2, 2, none⟩), .pointer (some ⟨b2, 3, none⟩), .pointer (some ⟨b2, 4, none⟩)]), (46, .int .i64 3)] (by kernel_rfl) rfl ?_
 refine VL_end (by kernel_rfl) ?_
 refine VQ_round ?_
 refine VCL_round ?_
 refine VC_seq ?_
 refine VC_region ?_
 refine VL_pure 1 [4, 6, 9, 10, 45, 46, 47] [(4, .pointer (some ⟨b1, 0, none⟩)), (6, .int .i64 (bOr .i64 (IntKind.wrap .i64 ((bOr .i64 (IntKind.wrap .i64 ((bOr .i64 (IntKind.wrap .i64 ((bOr .i64 0 (IntKind.wrap .i64 (bs.getD 0 0))) * 2 ^ 8)) (IntKind.wrap .i64 (bs.getD 1 0))) * 2 ^ 8)) (IntKind.wrap .i64 (bs.getD 2 0))) * 2 ^ 8)) (IntKind.wrap .i64 (bs.getD 3 0)))), (9, .pointer (some ⟨b2, 0, none⟩)), (10, .pointer (some ⟨b3, 0, none⟩)), (45, .agg #[.pointer (some ⟨b2, 0, none⟩), .pointer (some ⟨b2, 1, none⟩), .pointer (some ⟨b2, 2, none⟩), .pointer (some ⟨b2, 3, none⟩), .pointer (some ⟨b2, 4, none⟩)]), (46, .int .i64 3), (47, .bool true)] (by kernel_rfl) rfl ?_
 refine VL_end (by kernel_rfl) ?_
 refine VQ_next ?_
 refine VC_seq ?_
 refine VC_true (by kernel_rfl) ?_
 refine VC_skip ?_
 refine VQ_next ?_
 refine VC_seq ?_
 refine VC_block ?_
 refine VC_seq ?_
 refine VC_region ?_
 refine VL_pure 4 [4, 6, 9, 10, 45, 46, 11, 12] [(4, .pointer (some ⟨b1, 0, none⟩)), (6, .int .i64 (bOr .i64 (IntKind.wrap .i64 ((bOr .i64 (IntKind.wrap .i64 ((bOr .i64 (IntKind.wrap .i64 ((bOr .i64 0 (IntKind.wrap .i64 (bs.getD 0 0))) * 2 ^ 8)) (IntKind.wrap .i64 (bs.getD 1 0))) * 2 ^ 8)) (IntKind.wrap .i64 (bs.getD 2 0))) * 2 ^ 8)) (IntKind.wrap .i64 (bs.getD 3 0)))), (9, .pointer (some ⟨b2, 0, none⟩)), (10, .pointer (some ⟨b3, 0, none⟩)), (45, .agg #[.pointer (some ⟨b2, 0, none⟩), .pointer (some ⟨b2, 1, none⟩), .pointer (some ⟨b2, 2, none⟩), .pointer (some ⟨b2, 3, none⟩), .pointer (some ⟨b2, 4, none⟩)]), (46, .int .i64 3), (11, .int .i64 3), (12, .pointer (some ⟨b2, 3, none⟩))] (by kernel_rfl) rfl ?_
 refine VL_end (by kernel_rfl) ?_
 refine VQ_next ?_
 refine VC_seq ?_
 refine VC_region ?_
 refine VL_pure 1 [4, 6, 9, 10, 45, 46, 11, 12, 13] [(4, .pointer (some ⟨b1, 0, none⟩)), (6, .int .i64 (bOr .i64 (IntKind.wrap .i64 ((bOr .i64 (IntKind.wrap .i64 ((bOr .i64 (IntKind.wrap .i64 ((bOr .i64 0 (IntKind.wrap .i64 (bs.getD 0 0))) * 2 ^ 8)) (IntKind.wrap .i64 (bs.getD 1 0))) * 2 ^ 8)) (IntKind.wrap .i64 (bs.getD 2 0))) * 2 ^ 8)) (IntKind.wrap .i64 (bs.getD 3 0)))), (9, .pointer (some ⟨b2, 0, none⟩)), (10, .pointer (some ⟨b3, 0, none⟩)), (45, .agg #[.pointer (some ⟨b2, 0, none⟩), .pointer (some ⟨b2, 1, none⟩), .pointer (some ⟨b2, 2, none⟩), .pointer (some ⟨b2, 3, none⟩), .pointer (some ⟨b2, 4, none⟩)]), (46, .int .i64 3), (11, .int .i64 3), (12, .pointer (some ⟨b2, 3, none⟩)), (13, .int .i64 0)] (by kernel_rfl) rfl ?_
 refine VL_end (by kernel_rfl) ?_
 refine VQ_next ?_
 refine VC_seq ?_
 refine VC_seq ?_
 refine VC_region ?_
 refine VL_pure 5 [4, 6, 9, 10, 45, 46, 11, 12, 13, 52, 53, 54] [(4, .pointer (some ⟨b1, 0, none⟩)), (6, .int .i64 (bOr .i64 (IntKind.wrap .i64 ((bOr .i64 (IntKind.wrap .i64 ((bOr .i64 (IntKind.wrap .i64 ((bOr .i64 0 (IntKind.wrap .i64 (bs.getD 0 0))) * 2 ^ 8)) (IntKind.wrap .i64 (bs.getD 1 0))) * 2 ^ 8)) (IntKind.wrap .i64 (bs.getD 2 0))) * 2 ^ 8)) (IntKind.wrap .i64 (bs.getD 3 0)))), (9, .pointer (some ⟨b2, 0, none⟩)), (10, .pointer (some ⟨b3, 0, none⟩)), (45, .agg #[.pointer (some ⟨b2, 0, none⟩), .pointer (some ⟨b2, 1, none⟩), .pointer (some ⟨b2, 2, none⟩), .pointer (some ⟨b2, 3, none⟩), .pointer (some ⟨b2, 4, none⟩)]), (46, .int .i64 3), (11, .int .i64 3), (12, .pointer (some ⟨b2, 3, none⟩)), (13, .int .i64 0), (52, .slice (some ⟨b3, 4, none⟩) 1 1), (53, .int .i64 1), (54, .int .i64 0)] (by kernel_rfl) rfl ?_
 refine VL_end (by kernel_rfl) ?_
 refine VQ_next ?_
 refine VC_block ?_
 refine VC_rounds ?_
 refine VCL_round ?_
 refine VC_seq ?_
 refine VC_region ?_
 refine VL_pure 1 [4, 6, 9, 10, 45, 46, 11, 12, 13, 52, 53, 54, 55] [(4, .pointer (some ⟨b1, 0, none⟩)), (6, .int .i64 (bOr .i64 (IntKind.wrap .i64 ((bOr .i64 (IntKind.wrap .i64 ((bOr .i64 (IntKind.wrap .i64 ((bOr .i64 0 (IntKind.wrap .i64 (bs.getD 0 0))) * 2 ^ 8)) (IntKind.wrap .i64 (bs.getD 1 0))) * 2 ^ 8)) (IntKind.wrap .i64 (bs.getD 2 0))) * 2 ^ 8)) (IntKind.wrap .i64 (bs.getD 3 0)))), (9, .pointer (some ⟨b2, 0, none⟩)), (10, .pointer (some ⟨b3, 0, none⟩)), (45, .agg #[.pointer (some ⟨b2, 0, none⟩), .pointer (some ⟨b2, 1, none⟩), .pointer (some ⟨b2, 2, none⟩), .pointer (some ⟨b2, 3, none⟩), .pointer (some ⟨b2, 4, none⟩)]), (46, .int .i64 3), (11, .int .i64 3), (12, .pointer (some ⟨b2, 3, none⟩)), (13, .int .i64 0), (52, .slice (some ⟨b3, 4, none⟩) 1 1), (53, .int .i64 1), (54, .int .i64 0), (55, .bool true)] (by kernel_rfl) rfl ?_
 refine VL_end (by kernel_rfl) ?_
 refine VQ_next ?_
 refine VC_seq ?_
 refine VC_true (by kernel_rfl) ?_
 refine VC_skip ?_
 refine VQ_next ?_
 refine VC_seq ?_
 refine VC_block ?_
 refine VC_seq ?_
 refine VC_region ?_
 refine VL_index (d := 56) (b := b3) (o := 4) (len := 1) (sz := 1) (m := 0) (by kernel_rfl) (by kernel_rfl) 0 (by rfl) (by omega) 4 (by omega) ?_
 refine VL_load (d := 57) (t := 3) (a := ⟨b3, 4, none⟩) (v := .int .i64 1) (by kernel_rfl) (by kernel_rfl) (Loads.own1 ho4 (by kernel_rfl) (by rfl)) ?_
 refine VL_pure 3 [4, 6, 9, 10, 45, 46, 11, 12, 13, 52, 53, 54, 15] [(4, .pointer (some ⟨b1, 0, none⟩)), (6, .int .i64 (bOr .i64 (IntKind.wrap .i64 ((bOr .i64 (IntKind.wrap .i64 ((bOr .i64 (IntKind.wrap .i64 ((bOr .i64 0 (IntKind.wrap .i64 (bs.getD 0 0))) * 2 ^ 8)) (IntKind.wrap .i64 (bs.getD 1 0))) * 2 ^ 8)) (IntKind.wrap .i64 (bs.getD 2 0))) * 2 ^ 8)) (IntKind.wrap .i64 (bs.getD 3 0)))), (9, .pointer (some ⟨b2, 0, none⟩)), (10, .pointer (some ⟨b3, 0, none⟩)), (45, .agg #[.pointer (some ⟨b2, 0, none⟩), .pointer (some ⟨b2, 1, none⟩), .pointer (some ⟨b2, 2, none⟩), .pointer (some ⟨b2, 3, none⟩), .pointer (some ⟨b2, 4, none⟩)]), (46, .int .i64 3), (11, .int .i64 3), (12, .pointer (some ⟨b2, 3, none⟩)), (13, .int .i64 0), (52, .slice (some ⟨b3, 4, none⟩) 1 1), (53, .int .i64 1), (54, .int .i64 0), (15, .int .i64 1)] (by kernel_rfl) rfl ?_
 refine VL_end (by kernel_rfl) ?_
 refine VQ_next ?_
 refine VC_region ?_
 refine VL_pure 4 [4, 6, 9, 10, 45, 46, 11, 12, 13, 52, 53, 54] [(4, .pointer (some ⟨b1, 0, none⟩)), (6, .int .i64 (bOr .i64 (IntKind.wrap .i64 ((bOr .i64 (IntKind.wrap .i64 ((bOr .i64 (IntKind.wrap .i64 ((bOr .i64 0 (IntKind.wrap .i64 (bs.getD 0 0))) * 2 ^ 8)) (IntKind.wrap .i64 (bs.getD 1 0))) * 2 ^ 8)) (IntKind.wrap .i64 (bs.getD 2 0))) * 2 ^ 8)) (IntKind.wrap .i64 (bs.getD 3 0)))), (9, .pointer (some ⟨b2, 0, none⟩)), (10, .pointer (some ⟨b3, 0, none⟩)), (45, .agg #[.pointer (some ⟨b2, 0, none⟩), .pointer (some ⟨b2, 1, none⟩), .pointer (some ⟨b2, 2, none⟩), .pointer (some ⟨b2, 3, none⟩), .pointer (some ⟨b2, 4, none⟩)]), (46, .int .i64 3), (11, .int .i64 3), (12, .pointer (some ⟨b2, 3, none⟩)), (13, .int .i64 1), (52, .slice (some ⟨b3, 4, none⟩) 1 1), (53, .int .i64 1), (54, .int .i64 0)] (by kernel_rfl) rfl ?_
 refine VL_end (by kernel_rfl) ?_
 refine VQ_block_normal ?_
 refine VQ_next ?_
 refine VC_region ?_
 refine VL_pure 2 [4, 6, 9, 10, 45, 46, 11, 12, 13, 52, 53, 54] [(4, .pointer (some ⟨b1, 0, none⟩)), (6, .int .i64 (bOr .i64 (IntKind.wrap .i64 ((bOr .i64 (IntKind.wrap .i64 ((bOr .i64 (IntKind.wrap .i64 ((bOr .i64 0 (IntKind.wrap .i64 (bs.getD 0 0))) * 2 ^ 8)) (IntKind.wrap .i64 (bs.getD 1 0))) * 2 ^ 8)) (IntKind.wrap .i64 (bs.getD 2 0))) * 2 ^ 8)) (IntKind.wrap .i64 (bs.getD 3 0)))), (9, .pointer (some ⟨b2, 0, none⟩)), (10, .pointer (some ⟨b3, 0, none⟩)), (45, .agg #[.pointer (some ⟨b2, 0, none⟩), .pointer (some ⟨b2, 1, none⟩), .pointer (some ⟨b2, 2, none⟩), .pointer (some ⟨b2, 3, none⟩), .pointer (some ⟨b2, 4, none⟩)]), (46, .int .i64 3), (11, .int .i64 3), (12, .pointer (some ⟨b2, 3, none⟩)), (13, .int .i64 1), (52, .slice (some ⟨b3, 4, none⟩) 1 1), (53, .int .i64 1), (54, .int .i64 1)] (by kernel_rfl) rfl ?_
 refine VL_end (by kernel_rfl) ?_
 refine VQ_round ?_
 refine VCL_round ?_
 refine VC_seq ?_
 refine VC_region ?_
 refine VL_pure 1 [4, 6, 9, 10, 45, 46, 11, 12, 13, 52, 53, 54, 55] [(4, .pointer (some ⟨b1, 0, none⟩)), (6, .int .i64 (bOr .i64 (IntKind.wrap .i64 ((bOr .i64 (IntKind.wrap .i64 ((bOr .i64 (IntKind.wrap .i64 ((bOr .i64 0 (IntKind.wrap .i64 (bs.getD 0 0))) * 2 ^ 8)) (IntKind.wrap .i64 (bs.getD 1 0))) * 2 ^ 8)) (IntKind.wrap .i64 (bs.getD 2 0))) * 2 ^ 8)) (IntKind.wrap .i64 (bs.getD 3 0)))), (9, .pointer (some ⟨b2, 0, none⟩)), (10, .pointer (some ⟨b3, 0, none⟩)), (45, .agg #[.pointer (some ⟨b2, 0, none⟩), .pointer (some ⟨b2, 1, none⟩), .pointer (some ⟨b2, 2, none⟩), .pointer (some ⟨b2, 3, none⟩), .pointer (some ⟨b2, 4, none⟩)]), (46, .int .i64 3), (11, .int .i64 3), (12, .pointer (some ⟨b2, 3, none⟩)), (13, .int .i64 1), (52, .slice (some ⟨b3, 4, none⟩) 1 1), (53, .int .i64 1), (54, .int .i64 1), (55, .bool false)] (by kernel_rfl) rfl ?_
 refine VL_end (by kernel_rfl) ?_
 refine VQ_next ?_
 refine VC_seq ?_
 refine VC_false (by kernel_rfl) ?_
 refine VC_exit ?_
 refine VQ_then_exit ?_
 refine VQ_then_exit ?_
 refine VQ_block_hit ?_
 refine VQ_next ?_
 refine VC_det [[], [], [], [1, 2], [], [4], [4, 5], [4, 5, 6], [4, 5, 6, 7], [1, 2, 3, 4, 5, 6, 7, 8], [0, 1, 2, 3, 4, 5, 6, 7, 8, 9], [0, 1, 2, 3, 4, 5, 6, 7, 8, 9, 10]] 10 [.pointer (some ⟨b2, 3, none⟩), .int .i64 (bOr .i64 (IntKind.wrap .i64 ((bOr .i64 (IntKind.wrap .i64 ((bOr .i64 (IntKind.wrap .i64 ((bOr .i64 0 (IntKind.wrap .i64 (bs.getD 0 0))) * 2 ^ 8)) (IntKind.wrap .i64 (bs.getD 1 0))) * 2 ^ 8)) (IntKind.wrap .i64 (bs.getD 2 0))) * 2 ^ 8)) (IntKind.wrap .i64 (bs.getD 3 0))), .int .i64 1, .int .i64 ((bOr .i64 (IntKind.wrap .i64 ((bOr .i64 (IntKind.wrap .i64 ((bOr .i64 (IntKind.wrap .i64 ((bOr .i64 0 (IntKind.wrap .i64 (bs.getD 0 0))) * 2 ^ 8)) (IntKind.wrap .i64 (bs.getD 1 0))) * 2 ^ 8)) (IntKind.wrap .i64 (bs.getD 2 0))) * 2 ^ 8)) (IntKind.wrap .i64 (bs.getD 3 0))).fdiv (2 ^ 1)), .int .i64 3, .pointer (some ⟨b3, 3, none⟩), .int .i64 3, .int .i64 8, .int .i64 7, .int .i64 (bAnd .i64 ((bOr .i64 (IntKind.wrap .i64 ((bOr .i64 (IntKind.wrap .i64 ((bOr .i64 (IntKind.wrap .i64 ((bOr .i64 0 (IntKind.wrap .i64 (bs.getD 0 0))) * 2 ^ 8)) (IntKind.wrap .i64 (bs.getD 1 0))) * 2 ^ 8)) (IntKind.wrap .i64 (bs.getD 2 0))) * 2 ^ 8)) (IntKind.wrap .i64 (bs.getD 3 0))).fdiv (2 ^ 1)) 7)] [0, 1, 2, 3, 4, 7, 8, 9] [5, 6] (by kernel_rfl) (by kernel_rfl) (by kernel_rfl) (by kernel_rfl) ?_ ?_
 ·intro w12 hs4
  replace ho4 := ho4.no hs4
  exact ⟨Det1_index (d := 67) (b := b3) (o := 0) (len := 5) (sz := 1) (m := 3) (by kernel_rfl) (by kernel_rfl) 3 (by rfl) (by omega) 3 (by omega), Det1_load (d := 68) (t := 3) (a := ⟨b3, 3, none⟩) (by kernel_rfl) (by kernel_rfl) (Loads.own1 ho4 (by kernel_rfl) (by rfl)), trivial⟩
 intro w12 hs4
 replace hS := Step.trans hS hs4
 replace ho1 := ho1.no hs4
 replace ho4 := ho4.no hs4
 replace ho7 := ho7.no hs4
 refine VL_keep [4, 6, 9, 10, 45, 46, 62, 71] [(4, .pointer (some ⟨b1, 0, none⟩)), (6, .int .i64 (bOr .i64 (IntKind.wrap .i64 ((bOr .i64 (IntKind.wrap .i64 ((bOr .i64 (IntKind.wrap .i64 ((bOr .i64 0 (IntKind.wrap .i64 (bs.getD 0 0))) * 2 ^ 8)) (IntKind.wrap .i64 (bs.getD 1 0))) * 2 ^ 8)) (IntKind.wrap .i64 (bs.getD 2 0))) * 2 ^ 8)) (IntKind.wrap .i64 (bs.getD 3 0)))), (9, .pointer (some ⟨b2, 0, none⟩)), (10, .pointer (some ⟨b3, 0, none⟩)), (45, .agg #[.pointer (some ⟨b2, 0, none⟩), .pointer (some ⟨b2, 1, none⟩), .pointer (some ⟨b2, 2, none⟩), .pointer (some ⟨b2, 3, none⟩), .pointer (some ⟨b2, 4, none⟩)]), (46, .int .i64 3), (62, .pointer (some ⟨b2, 3, none⟩)), (71, .int .i64 (bAnd .i64 ((bOr .i64 (IntKind.wrap .i64 ((bOr .i64 (IntKind.wrap .i64 ((bOr .i64 (IntKind.wrap .i64 ((bOr .i64 0 (IntKind.wrap .i64 (bs.getD 0 0))) * 2 ^ 8)) (IntKind.wrap .i64 (bs.getD 1 0))) * 2 ^ 8)) (IntKind.wrap .i64 (bs.getD 2 0))) * 2 ^ 8)) (IntKind.wrap .i64 (bs.getD 3 0))).fdiv (2 ^ 1)) 7))] (by kernel_rfl) ?_
 refine VL_pure 11 [4, 6, 9, 10, 45, 46, 71, 72] [(4, .pointer (some ⟨b1, 0, none⟩)), (6, .int .i64 (bOr .i64 (IntKind.wrap .i64 ((bOr .i64 (IntKind.wrap .i64 ((bOr .i64 (IntKind.wrap .i64 ((bOr .i64 0 (IntKind.wrap .i64 (bs.getD 0 0))) * 2 ^ 8)) (IntKind.wrap .i64 (bs.getD 1 0))) * 2 ^ 8)) (IntKind.wrap .i64 (bs.getD 2 0))) * 2 ^ 8)) (IntKind.wrap .i64 (bs.getD 3 0)))), (9, .pointer (some ⟨b2, 0, none⟩)), (10, .pointer (some ⟨b3, 0, none⟩)), (45, .agg #[.pointer (some ⟨b2, 0, none⟩), .pointer (some ⟨b2, 1, none⟩), .pointer (some ⟨b2, 2, none⟩), .pointer (some ⟨b2, 3, none⟩), .pointer (some ⟨b2, 4, none⟩)]), (46, .int .i64 3), (71, .int .i64 (bAnd .i64 ((bOr .i64 (IntKind.wrap .i64 ((bOr .i64 (IntKind.wrap .i64 ((bOr .i64 (IntKind.wrap .i64 ((bOr .i64 0 (IntKind.wrap .i64 (bs.getD 0 0))) * 2 ^ 8)) (IntKind.wrap .i64 (bs.getD 1 0))) * 2 ^ 8)) (IntKind.wrap .i64 (bs.getD 2 0))) * 2 ^ 8)) (IntKind.wrap .i64 (bs.getD 3 0))).fdiv (2 ^ 1)) 7)), (72, .pointer (some ⟨b2, 3, none⟩))] (by kernel_rfl) rfl ?_
 refine VL_store (b := b2) (o := 3) (vs := [.int .i64 (bAnd .i64 ((bOr .i64 (IntKind.wrap .i64 ((bOr .i64 (IntKind.wrap .i64 ((bOr .i64 (IntKind.wrap .i64 ((bOr .i64 0 (IntKind.wrap .i64 (bs.getD 0 0))) * 2 ^ 8)) (IntKind.wrap .i64 (bs.getD 1 0))) * 2 ^ 8)) (IntKind.wrap .i64 (bs.getD 2 0))) * 2 ^ 8)) (IntKind.wrap .i64 (bs.getD 3 0))).fdiv (2 ^ 1)) 7)]) (by kernel_rfl) (by kernel_rfl) ho7 (Nat.le_of_ble_eq_true (by kernel_rfl)) ?_
 intro w13 hw5
 replace hS := Step.transNew hS hw5.step (fun _ _ _ => by omega)
 replace ho1 := ho1.step hw5.step (show ¬ b1 = b2 by omega)
 replace ho4 := ho4.step hw5.step (show ¬ b3 = b2 by omega)
 have ho8 : Own w13 b2 #[.int .i64 (bAnd .i64 ((bOr .i64 (IntKind.wrap .i64 ((bOr .i64 (IntKind.wrap .i64 ((bOr .i64 (IntKind.wrap .i64 ((bOr .i64 0 (IntKind.wrap .i64 (bs.getD 0 0))) * 2 ^ 8)) (IntKind.wrap .i64 (bs.getD 1 0))) * 2 ^ 8)) (IntKind.wrap .i64 (bs.getD 2 0))) * 2 ^ 8)) (IntKind.wrap .i64 (bs.getD 3 0))).fdiv (2 ^ 28)) 15), .int .i64 (bAnd .i64 ((bOr .i64 (IntKind.wrap .i64 ((bOr .i64 (IntKind.wrap .i64 ((bOr .i64 (IntKind.wrap .i64 ((bOr .i64 0 (IntKind.wrap .i64 (bs.getD 0 0))) * 2 ^ 8)) (IntKind.wrap .i64 (bs.getD 1 0))) * 2 ^ 8)) (IntKind.wrap .i64 (bs.getD 2 0))) * 2 ^ 8)) (IntKind.wrap .i64 (bs.getD 3 0))).fdiv (2 ^ 20)) 255), .int .i64 (bAnd .i64 ((bOr .i64 (IntKind.wrap .i64 ((bOr .i64 (IntKind.wrap .i64 ((bOr .i64 (IntKind.wrap .i64 ((bOr .i64 0 (IntKind.wrap .i64 (bs.getD 0 0))) * 2 ^ 8)) (IntKind.wrap .i64 (bs.getD 1 0))) * 2 ^ 8)) (IntKind.wrap .i64 (bs.getD 2 0))) * 2 ^ 8)) (IntKind.wrap .i64 (bs.getD 3 0))).fdiv (2 ^ 4)) 65535), .int .i64 (bAnd .i64 ((bOr .i64 (IntKind.wrap .i64 ((bOr .i64 (IntKind.wrap .i64 ((bOr .i64 (IntKind.wrap .i64 ((bOr .i64 0 (IntKind.wrap .i64 (bs.getD 0 0))) * 2 ^ 8)) (IntKind.wrap .i64 (bs.getD 1 0))) * 2 ^ 8)) (IntKind.wrap .i64 (bs.getD 2 0))) * 2 ^ 8)) (IntKind.wrap .i64 (bs.getD 3 0))).fdiv (2 ^ 1)) 7), .int .i64 0] 40 := Own.cast hw5.own (by kernel_rfl)
 refine VL_end (by kernel_rfl) ?_
 refine VQ_block_normal ?_
 refine VQ_next ?_
 refine VC_region ?_
 refine VL_pure 2 [4, 6, 9, 10, 45, 46] [(4, .pointer (some ⟨b1, 0, none⟩)), (6, .int .i64 (bOr .i64 (IntKind.wrap .i64 ((bOr .i64 (IntKind.wrap .i64 ((bOr .i64 (IntKind.wrap .i64 ((bOr .i64 0 (IntKind.wrap .i64 (bs.getD 0 0))) * 2 ^ 8)) (IntKind.wrap .i64 (bs.getD 1 0))) * 2 ^ 8)) (IntKind.wrap .i64 (bs.getD 2 0))) * 2 ^ 8)) (IntKind.wrap .i64 (bs.getD 3 0)))), (9, .pointer (some ⟨b2, 0, none⟩)), (10, .pointer (some ⟨b3, 0, none⟩)), (45, .agg #[.pointer (some ⟨b2, 0, none⟩), .pointer (some ⟨b2, 1, none⟩), .pointer (some ⟨b2, 2, none⟩), .pointer (some ⟨b2, 3, none⟩), .pointer (some ⟨b2, 4, none⟩)]), (46, .int .i64 4)] (by kernel_rfl) rfl ?_
 refine VL_end (by kernel_rfl) ?_
 refine VQ_round ?_
 refine VCL_round ?_
 refine VC_seq ?_
 refine VC_region ?_
 refine VL_pure 1 [4, 6, 9, 10, 45, 46, 47] [(4, .pointer (some ⟨b1, 0, none⟩)), (6, .int .i64 (bOr .i64 (IntKind.wrap .i64 ((bOr .i64 (IntKind.wrap .i64 ((bOr .i64 (IntKind.wrap .i64 ((bOr .i64 0 (IntKind.wrap .i64 (bs.getD 0 0))) * 2 ^ 8)) (IntKind.wrap .i64 (bs.getD 1 0))) * 2 ^ 8)) (IntKind.wrap .i64 (bs.getD 2 0))) * 2 ^ 8)) (IntKind.wrap .i64 (bs.getD 3 0)))), (9, .pointer (some ⟨b2, 0, none⟩)), (10, .pointer (some ⟨b3, 0, none⟩)), (45, .agg #[.pointer (some ⟨b2, 0, none⟩), .pointer (some ⟨b2, 1, none⟩), .pointer (some ⟨b2, 2, none⟩), .pointer (some ⟨b2, 3, none⟩), .pointer (some ⟨b2, 4, none⟩)]), (46, .int .i64 4), (47, .bool true)] (by kernel_rfl) rfl ?_
 refine VL_end (by kernel_rfl) ?_
 refine VQ_next ?_
 refine VC_seq ?_
 refine VC_true (by kernel_rfl) ?_
 refine VC_skip ?_
 refine VQ_next ?_
 refine VC_seq ?_
 refine VC_block ?_
 refine VC_seq ?_
 refine VC_region ?_
 refine VL_pure 4 [4, 6, 9, 10, 45, 46, 11, 12] [(4, .pointer (some ⟨b1, 0, none⟩)), (6, .int .i64 (bOr .i64 (IntKind.wrap .i64 ((bOr .i64 (IntKind.wrap .i64 ((bOr .i64 (IntKind.wrap .i64 ((bOr .i64 0 (IntKind.wrap .i64 (bs.getD 0 0))) * 2 ^ 8)) (IntKind.wrap .i64 (bs.getD 1 0))) * 2 ^ 8)) (IntKind.wrap .i64 (bs.getD 2 0))) * 2 ^ 8)) (IntKind.wrap .i64 (bs.getD 3 0)))), (9, .pointer (some ⟨b2, 0, none⟩)), (10, .pointer (some ⟨b3, 0, none⟩)), (45, .agg #[.pointer (some ⟨b2, 0, none⟩), .pointer (some ⟨b2, 1, none⟩), .pointer (some ⟨b2, 2, none⟩), .pointer (some ⟨b2, 3, none⟩), .pointer (some ⟨b2, 4, none⟩)]), (46, .int .i64 4), (11, .int .i64 4), (12, .pointer (some ⟨b2, 4, none⟩))] (by kernel_rfl) rfl ?_
 refine VL_end (by kernel_rfl) ?_
 refine VQ_next ?_
 refine VC_seq ?_
 refine VC_region ?_
 refine VL_pure 1 [4, 6, 9, 10, 45, 46, 11, 12, 13] [(4, .pointer (some ⟨b1, 0, none⟩)), (6, .int .i64 (bOr .i64 (IntKind.wrap .i64 ((bOr .i64 (IntKind.wrap .i64 ((bOr .i64 (IntKind.wrap .i64 ((bOr .i64 0 (IntKind.wrap .i64 (bs.getD 0 0))) * 2 ^ 8)) (IntKind.wrap .i64 (bs.getD 1 0))) * 2 ^ 8)) (IntKind.wrap .i64 (bs.getD 2 0))) * 2 ^ 8)) (IntKind.wrap .i64 (bs.getD 3 0)))), (9, .pointer (some ⟨b2, 0, none⟩)), (10, .pointer (some ⟨b3, 0, none⟩)), (45, .agg #[.pointer (some ⟨b2, 0, none⟩), .pointer (some ⟨b2, 1, none⟩), .pointer (some ⟨b2, 2, none⟩), .pointer (some ⟨b2, 3, none⟩), .pointer (some ⟨b2, 4, none⟩)]), (46, .int .i64 4), (11, .int .i64 4), (12, .pointer (some ⟨b2, 4, none⟩)), (13, .int .i64 0)] (by kernel_rfl) rfl ?_
 refine VL_end (by kernel_rfl) ?_
 refine VQ_next ?_
 refine VC_seq ?_
 refine VC_seq ?_
 refine VC_region ?_
 refine VL_pure 5 [4, 6, 9, 10, 45, 46, 11, 12, 13, 52, 53, 54] [(4, .pointer (some ⟨b1, 0, none⟩)), (6, .int .i64 (bOr .i64 (IntKind.wrap .i64 ((bOr .i64 (IntKind.wrap .i64 ((bOr .i64 (IntKind.wrap .i64 ((bOr .i64 0 (IntKind.wrap .i64 (bs.getD 0 0))) * 2 ^ 8)) (IntKind.wrap .i64 (bs.getD 1 0))) * 2 ^ 8)) (IntKind.wrap .i64 (bs.getD 2 0))) * 2 ^ 8)) (IntKind.wrap .i64 (bs.getD 3 0)))), (9, .pointer (some ⟨b2, 0, none⟩)), (10, .pointer (some ⟨b3, 0, none⟩)), (45, .agg #[.pointer (some ⟨b2, 0, none⟩), .pointer (some ⟨b2, 1, none⟩), .pointer (some ⟨b2, 2, none⟩), .pointer (some ⟨b2, 3, none⟩), .pointer (some ⟨b2, 4, none⟩)]), (46, .int .i64 4), (11, .int .i64 4), (12, .pointer (some ⟨b2, 4, none⟩)), (13, .int .i64 0), (52, .slice (some ⟨b3, 0, none⟩) 0 0), (53, .int .i64 0), (54, .int .i64 0)] (by kernel_rfl) rfl ?_
 refine VL_end (by kernel_rfl) ?_
 refine VQ_next ?_
 refine VC_block ?_
 refine VC_rounds ?_
 refine VCL_round ?_
 refine VC_seq ?_
 refine VC_region ?_
 refine VL_pure 1 [4, 6, 9, 10, 45, 46, 11, 12, 13, 52, 53, 54, 55] [(4, .pointer (some ⟨b1, 0, none⟩)), (6, .int .i64 (bOr .i64 (IntKind.wrap .i64 ((bOr .i64 (IntKind.wrap .i64 ((bOr .i64 (IntKind.wrap .i64 ((bOr .i64 0 (IntKind.wrap .i64 (bs.getD 0 0))) * 2 ^ 8)) (IntKind.wrap .i64 (bs.getD 1 0))) * 2 ^ 8)) (IntKind.wrap .i64 (bs.getD 2 0))) * 2 ^ 8)) (IntKind.wrap .i64 (bs.getD 3 0)))), (9, .pointer (some ⟨b2, 0, none⟩)), (10, .pointer (some ⟨b3, 0, none⟩)), (45, .agg #[.pointer (some ⟨b2, 0, none⟩), .pointer (some ⟨b2, 1, none⟩), .pointer (some ⟨b2, 2, none⟩), .pointer (some ⟨b2, 3, none⟩), .pointer (some ⟨b2, 4, none⟩)]), (46, .int .i64 4), (11, .int .i64 4), (12, .pointer (some ⟨b2, 4, none⟩)), (13, .int .i64 0), (52, .slice (some ⟨b3, 0, none⟩) 0 0), (53, .int .i64 0), (54, .int .i64 0), (55, .bool false)] (by kernel_rfl) rfl ?_
 refine VL_end (by kernel_rfl) ?_
 refine VQ_next ?_
 refine VC_seq ?_
 refine VC_false (by kernel_rfl) ?_
 refine VC_exit ?_
 refine VQ_then_exit ?_
 refine VQ_then_exit ?_
 refine VQ_block_hit ?_
 refine VQ_next ?_
 refine VC_det [[], [], [], [1, 2], [], [4], [4, 5], [4, 5, 6], [4, 5, 6, 7], [1, 2, 3, 4, 5, 6, 7, 8], [0, 1, 2, 3, 4, 5, 6, 7, 8, 9], [0, 1, 2, 3, 4, 5, 6, 7, 8, 9, 10]] 10 [.pointer (some ⟨b2, 4, none⟩), .int .i64 (bOr .i64 (IntKind.wrap .i64 ((bOr .i64 (IntKind.wrap .i64 ((bOr .i64 (IntKind.wrap .i64 ((bOr .i64 0 (IntKind.wrap .i64 (bs.getD 0 0))) * 2 ^ 8)) (IntKind.wrap .i64 (bs.getD 1 0))) * 2 ^ 8)) (IntKind.wrap .i64 (bs.getD 2 0))) * 2 ^ 8)) (IntKind.wrap .i64 (bs.getD 3 0))), .int .i64 0, .int .i64 ((bOr .i64 (IntKind.wrap .i64 ((bOr .i64 (IntKind.wrap .i64 ((bOr .i64 (IntKind.wrap .i64 ((bOr .i64 0 (IntKind.wrap .i64 (bs.getD 0 0))) * 2 ^ 8)) (IntKind.wrap .i64 (bs.getD 1 0))) * 2 ^ 8)) (IntKind.wrap .i64 (bs.getD 2 0))) * 2 ^ 8)) (IntKind.wrap .i64 (bs.getD 3 0))).fdiv (2 ^ 0)), .int .i64 4, .pointer (some ⟨b3, 4, none⟩), .int .i64 1, .int .i64 2, .int .i64 1, .int .i64 (bAnd .i64 ((bOr .i64 (IntKind.wrap .i64 ((bOr .i64 (IntKind.wrap .i64 ((bOr .i64 (IntKind.wrap .i64 ((bOr .i64 0 (IntKind.wrap .i64 (bs.getD 0 0))) * 2 ^ 8)) (IntKind.wrap .i64 (bs.getD 1 0))) * 2 ^ 8)) (IntKind.wrap .i64 (bs.getD 2 0))) * 2 ^ 8)) (IntKind.wrap .i64 (bs.getD 3 0))).fdiv (2 ^ 0)) 1)] [0, 1, 2, 3, 4, 7, 8, 9] [5, 6] (by kernel_rfl) (by kernel_rfl) (by kernel_rfl) (by kernel_rfl) ?_ ?_
 ·intro w14 hs5
  replace ho4 := ho4.no hs5
  exact ⟨Det1_index (d := 67) (b := b3) (o := 0) (len := 5) (sz := 1) (m := 4) (by kernel_rfl) (by kernel_rfl) 4 (by rfl) (by omega) 4 (by omega), Det1_load (d := 68) (t := 3) (a := ⟨b3, 4, none⟩) (by kernel_rfl) (by kernel_rfl) (Loads.own1 ho4 (by kernel_rfl) (by rfl)), trivial⟩
 intro w14 hs5
 replace hS := Step.trans hS hs5
 replace ho1 := ho1.no hs5
 replace ho8 := ho8.no hs5
 refine VL_keep [4, 6, 9, 10, 45, 46, 62, 71] [(4, .pointer (some ⟨b1, 0, none⟩)), (6, .int .i64 (bOr .i64 (IntKind.wrap .i64 ((bOr .i64 (IntKind.wrap .i64 ((bOr .i64 (IntKind.wrap .i64 ((bOr .i64 0 (IntKind.wrap .i64 (bs.getD 0 0))) * 2 ^ 8)) (IntKind.wrap .i64 (bs.getD 1 0))) * 2 ^ 8)) (IntKind.wrap .i64 (bs.getD 2 0))) * 2 ^ 8)) (IntKind.wrap .i64 (bs.getD 3 0)))), (9, .pointer (some ⟨b2, 0, none⟩)), (10, .pointer (some ⟨b3, 0, none⟩)), (45, .agg #[.pointer (some ⟨b2, 0, none⟩), .pointer (some ⟨b2, 1, none⟩), .pointer (some ⟨b2, 2, none⟩), .pointer (some ⟨b2, 3, none⟩), .pointer (some ⟨b2, 4, none⟩)]), (46, .int .i64 4), (62, .pointer (some ⟨b2, 4, none⟩)), (71, .int .i64 (bAnd .i64 ((bOr .i64 (IntKind.wrap .i64 ((bOr .i64 (IntKind.wrap .i64 ((bOr .i64 (IntKind.wrap .i64 ((bOr .i64 0 (IntKind.wrap .i64 (bs.getD 0 0))) * 2 ^ 8)) (IntKind.wrap .i64 (bs.getD 1 0))) * 2 ^ 8)) (IntKind.wrap .i64 (bs.getD 2 0))) * 2 ^ 8)) (IntKind.wrap .i64 (bs.getD 3 0))).fdiv (2 ^ 0)) 1))] (by kernel_rfl) ?_
 refine VL_pure 11 [4, 6, 9, 10, 45, 46, 71, 72] [(4, .pointer (some ⟨b1, 0, none⟩)), (6, .int .i64 (bOr .i64 (IntKind.wrap .i64 ((bOr .i64 (IntKind.wrap .i64 ((bOr .i64 (IntKind.wrap .i64 ((bOr .i64 0 (IntKind.wrap .i64 (bs.getD 0 0))) * 2 ^ 8)) (IntKind.wrap .i64 (bs.getD 1 0))) * 2 ^ 8)) (IntKind.wrap .i64 (bs.getD 2 0))) * 2 ^ 8)) (IntKind.wrap .i64 (bs.getD 3 0)))), (9, .pointer (some ⟨b2, 0, none⟩)), (10, .pointer (some ⟨b3, 0, none⟩)), (45, .agg #[.pointer (some ⟨b2, 0, none⟩), .pointer (some ⟨b2, 1, none⟩), .pointer (some ⟨b2, 2, none⟩), .pointer (some ⟨b2, 3, none⟩), .pointer (some ⟨b2, 4, none⟩)]), (46, .int .i64 4), (71, .int .i64 (bAnd .i64 ((bOr .i64 (IntKind.wrap .i64 ((bOr .i64 (IntKind.wrap .i64 ((bOr .i64 (IntKind.wrap .i64 ((bOr .i64 0 (IntKind.wrap .i64 (bs.getD 0 0))) * 2 ^ 8)) (IntKind.wrap .i64 (bs.getD 1 0))) * 2 ^ 8)) (IntKind.wrap .i64 (bs.getD 2 0))) * 2 ^ 8)) (IntKind.wrap .i64 (bs.getD 3 0))).fdiv (2 ^ 0)) 1)), (72, .pointer (some ⟨b2, 4, none⟩))] (by kernel_rfl) rfl ?_
 refine VL_store (b := b2) (o := 4) (vs := [.int .i64 (bAnd .i64 ((bOr .i64 (IntKind.wrap .i64 ((bOr .i64 (IntKind.wrap .i64 ((bOr .i64 (IntKind.wrap .i64 ((bOr .i64 0 (IntKind.wrap .i64 (bs.getD 0 0))) * 2 ^ 8)) (IntKind.wrap .i64 (bs.getD 1 0))) * 2 ^ 8)) (IntKind.wrap .i64 (bs.getD 2 0))) * 2 ^ 8)) (IntKind.wrap .i64 (bs.getD 3 0))).fdiv (2 ^ 0)) 1)]) (by kernel_rfl) (by kernel_rfl) ho8 (Nat.le_of_ble_eq_true (by kernel_rfl)) ?_
 intro w15 hw6
 replace hS := Step.transNew hS hw6.step (fun _ _ _ => by omega)
 replace ho1 := ho1.step hw6.step (show ¬ b1 = b2 by omega)
 have ho9 : Own w15 b2 #[.int .i64 (bAnd .i64 ((bOr .i64 (IntKind.wrap .i64 ((bOr .i64 (IntKind.wrap .i64 ((bOr .i64 (IntKind.wrap .i64 ((bOr .i64 0 (IntKind.wrap .i64 (bs.getD 0 0))) * 2 ^ 8)) (IntKind.wrap .i64 (bs.getD 1 0))) * 2 ^ 8)) (IntKind.wrap .i64 (bs.getD 2 0))) * 2 ^ 8)) (IntKind.wrap .i64 (bs.getD 3 0))).fdiv (2 ^ 28)) 15), .int .i64 (bAnd .i64 ((bOr .i64 (IntKind.wrap .i64 ((bOr .i64 (IntKind.wrap .i64 ((bOr .i64 (IntKind.wrap .i64 ((bOr .i64 0 (IntKind.wrap .i64 (bs.getD 0 0))) * 2 ^ 8)) (IntKind.wrap .i64 (bs.getD 1 0))) * 2 ^ 8)) (IntKind.wrap .i64 (bs.getD 2 0))) * 2 ^ 8)) (IntKind.wrap .i64 (bs.getD 3 0))).fdiv (2 ^ 20)) 255), .int .i64 (bAnd .i64 ((bOr .i64 (IntKind.wrap .i64 ((bOr .i64 (IntKind.wrap .i64 ((bOr .i64 (IntKind.wrap .i64 ((bOr .i64 0 (IntKind.wrap .i64 (bs.getD 0 0))) * 2 ^ 8)) (IntKind.wrap .i64 (bs.getD 1 0))) * 2 ^ 8)) (IntKind.wrap .i64 (bs.getD 2 0))) * 2 ^ 8)) (IntKind.wrap .i64 (bs.getD 3 0))).fdiv (2 ^ 4)) 65535), .int .i64 (bAnd .i64 ((bOr .i64 (IntKind.wrap .i64 ((bOr .i64 (IntKind.wrap .i64 ((bOr .i64 (IntKind.wrap .i64 ((bOr .i64 0 (IntKind.wrap .i64 (bs.getD 0 0))) * 2 ^ 8)) (IntKind.wrap .i64 (bs.getD 1 0))) * 2 ^ 8)) (IntKind.wrap .i64 (bs.getD 2 0))) * 2 ^ 8)) (IntKind.wrap .i64 (bs.getD 3 0))).fdiv (2 ^ 1)) 7), .int .i64 (bAnd .i64 ((bOr .i64 (IntKind.wrap .i64 ((bOr .i64 (IntKind.wrap .i64 ((bOr .i64 (IntKind.wrap .i64 ((bOr .i64 0 (IntKind.wrap .i64 (bs.getD 0 0))) * 2 ^ 8)) (IntKind.wrap .i64 (bs.getD 1 0))) * 2 ^ 8)) (IntKind.wrap .i64 (bs.getD 2 0))) * 2 ^ 8)) (IntKind.wrap .i64 (bs.getD 3 0))).fdiv (2 ^ 0)) 1)] 40 := Own.cast hw6.own (by kernel_rfl)
 refine VL_end (by kernel_rfl) ?_
 refine VQ_block_normal ?_
 refine VQ_next ?_
 refine VC_region ?_
 refine VL_pure 2 [4, 6, 9, 10, 45, 46] [(4, .pointer (some ⟨b1, 0, none⟩)), (6, .int .i64 (bOr .i64 (IntKind.wrap .i64 ((bOr .i64 (IntKind.wrap .i64 ((bOr .i64 (IntKind.wrap .i64 ((bOr .i64 0 (IntKind.wrap .i64 (bs.getD 0 0))) * 2 ^ 8)) (IntKind.wrap .i64 (bs.getD 1 0))) * 2 ^ 8)) (IntKind.wrap .i64 (bs.getD 2 0))) * 2 ^ 8)) (IntKind.wrap .i64 (bs.getD 3 0)))), (9, .pointer (some ⟨b2, 0, none⟩)), (10, .pointer (some ⟨b3, 0, none⟩)), (45, .agg #[.pointer (some ⟨b2, 0, none⟩), .pointer (some ⟨b2, 1, none⟩), .pointer (some ⟨b2, 2, none⟩), .pointer (some ⟨b2, 3, none⟩), .pointer (some ⟨b2, 4, none⟩)]), (46, .int .i64 5)] (by kernel_rfl) rfl ?_
 refine VL_end (by kernel_rfl) ?_
 refine VQ_round ?_
 refine VCL_round ?_
 refine VC_seq ?_
 refine VC_region ?_
 refine VL_pure 1 [4, 6, 9, 10, 45, 46, 47] [(4, .pointer (some ⟨b1, 0, none⟩)), (6, .int .i64 (bOr .i64 (IntKind.wrap .i64 ((bOr .i64 (IntKind.wrap .i64 ((bOr .i64 (IntKind.wrap .i64 ((bOr .i64 0 (IntKind.wrap .i64 (bs.getD 0 0))) * 2 ^ 8)) (IntKind.wrap .i64 (bs.getD 1 0))) * 2 ^ 8)) (IntKind.wrap .i64 (bs.getD 2 0))) * 2 ^ 8)) (IntKind.wrap .i64 (bs.getD 3 0)))), (9, .pointer (some ⟨b2, 0, none⟩)), (10, .pointer (some ⟨b3, 0, none⟩)), (45, .agg #[.pointer (some ⟨b2, 0, none⟩), .pointer (some ⟨b2, 1, none⟩), .pointer (some ⟨b2, 2, none⟩), .pointer (some ⟨b2, 3, none⟩), .pointer (some ⟨b2, 4, none⟩)]), (46, .int .i64 5), (47, .bool false)] (by kernel_rfl) rfl ?_
 refine VL_end (by kernel_rfl) ?_
 refine VQ_next ?_
 refine VC_seq ?_
 refine VC_false (by kernel_rfl) ?_
 refine VC_exit ?_
 refine VQ_then_exit ?_
 refine VQ_then_exit ?_
 refine VQ_block_hit ?_
 refine VQ_next ?_
 refine VC_seq ?_
 refine VC_region ?_
 refine VL_load (d := 74) (t := 40) (a := ⟨b2, 0, none⟩) (v := .agg #[.int .i64 (bAnd .i64 ((bOr .i64 (IntKind.wrap .i64 ((bOr .i64 (IntKind.wrap .i64 ((bOr .i64 (IntKind.wrap .i64 ((bOr .i64 0 (IntKind.wrap .i64 (bs.getD 0 0))) * 2 ^ 8)) (IntKind.wrap .i64 (bs.getD 1 0))) * 2 ^ 8)) (IntKind.wrap .i64 (bs.getD 2 0))) * 2 ^ 8)) (IntKind.wrap .i64 (bs.getD 3 0))).fdiv (2 ^ 28)) 15), .int .i64 (bAnd .i64 ((bOr .i64 (IntKind.wrap .i64 ((bOr .i64 (IntKind.wrap .i64 ((bOr .i64 (IntKind.wrap .i64 ((bOr .i64 0 (IntKind.wrap .i64 (bs.getD 0 0))) * 2 ^ 8)) (IntKind.wrap .i64 (bs.getD 1 0))) * 2 ^ 8)) (IntKind.wrap .i64 (bs.getD 2 0))) * 2 ^ 8)) (IntKind.wrap .i64 (bs.getD 3 0))).fdiv (2 ^ 20)) 255), .int .i64 (bAnd .i64 ((bOr .i64 (IntKind.wrap .i64 ((bOr .i64 (IntKind.wrap .i64 ((bOr .i64 (IntKind.wrap .i64 ((bOr .i64 0 (IntKind.wrap .i64 (bs.getD 0 0))) * 2 ^ 8)) (IntKind.wrap .i64 (bs.getD 1 0))) * 2 ^ 8)) (IntKind.wrap .i64 (bs.getD 2 0))) * 2 ^ 8)) (IntKind.wrap .i64 (bs.getD 3 0))).fdiv (2 ^ 4)) 65535), .int .i64 (bAnd .i64 ((bOr .i64 (IntKind.wrap .i64 ((bOr .i64 (IntKind.wrap .i64 ((bOr .i64 (IntKind.wrap .i64 ((bOr .i64 0 (IntKind.wrap .i64 (bs.getD 0 0))) * 2 ^ 8)) (IntKind.wrap .i64 (bs.getD 1 0))) * 2 ^ 8)) (IntKind.wrap .i64 (bs.getD 2 0))) * 2 ^ 8)) (IntKind.wrap .i64 (bs.getD 3 0))).fdiv (2 ^ 1)) 7), .int .i64 (bAnd .i64 ((bOr .i64 (IntKind.wrap .i64 ((bOr .i64 (IntKind.wrap .i64 ((bOr .i64 (IntKind.wrap .i64 ((bOr .i64 0 (IntKind.wrap .i64 (bs.getD 0 0))) * 2 ^ 8)) (IntKind.wrap .i64 (bs.getD 1 0))) * 2 ^ 8)) (IntKind.wrap .i64 (bs.getD 2 0))) * 2 ^ 8)) (IntKind.wrap .i64 (bs.getD 3 0))).fdiv (2 ^ 0)) 1)]) (by kernel_rfl) (by kernel_rfl) (Loads.ownL ho9 (n := 5) (by kernel_rfl) (by kernel_rfl) (by kernel_rfl)) ?_
 refine VL_store (b := b1) (o := 0) (vs := [.int .i64 (bAnd .i64 ((bOr .i64 (IntKind.wrap .i64 ((bOr .i64 (IntKind.wrap .i64 ((bOr .i64 (IntKind.wrap .i64 ((bOr .i64 0 (IntKind.wrap .i64 (bs.getD 0 0))) * 2 ^ 8)) (IntKind.wrap .i64 (bs.getD 1 0))) * 2 ^ 8)) (IntKind.wrap .i64 (bs.getD 2 0))) * 2 ^ 8)) (IntKind.wrap .i64 (bs.getD 3 0))).fdiv (2 ^ 28)) 15), .int .i64 (bAnd .i64 ((bOr .i64 (IntKind.wrap .i64 ((bOr .i64 (IntKind.wrap .i64 ((bOr .i64 (IntKind.wrap .i64 ((bOr .i64 0 (IntKind.wrap .i64 (bs.getD 0 0))) * 2 ^ 8)) (IntKind.wrap .i64 (bs.getD 1 0))) * 2 ^ 8)) (IntKind.wrap .i64 (bs.getD 2 0))) * 2 ^ 8)) (IntKind.wrap .i64 (bs.getD 3 0))).fdiv (2 ^ 20)) 255), .int .i64 (bAnd .i64 ((bOr .i64 (IntKind.wrap .i64 ((bOr .i64 (IntKind.wrap .i64 ((bOr .i64 (IntKind.wrap .i64 ((bOr .i64 0 (IntKind.wrap .i64 (bs.getD 0 0))) * 2 ^ 8)) (IntKind.wrap .i64 (bs.getD 1 0))) * 2 ^ 8)) (IntKind.wrap .i64 (bs.getD 2 0))) * 2 ^ 8)) (IntKind.wrap .i64 (bs.getD 3 0))).fdiv (2 ^ 4)) 65535), .int .i64 (bAnd .i64 ((bOr .i64 (IntKind.wrap .i64 ((bOr .i64 (IntKind.wrap .i64 ((bOr .i64 (IntKind.wrap .i64 ((bOr .i64 0 (IntKind.wrap .i64 (bs.getD 0 0))) * 2 ^ 8)) (IntKind.wrap .i64 (bs.getD 1 0))) * 2 ^ 8)) (IntKind.wrap .i64 (bs.getD 2 0))) * 2 ^ 8)) (IntKind.wrap .i64 (bs.getD 3 0))).fdiv (2 ^ 1)) 7), .int .i64 (bAnd .i64 ((bOr .i64 (IntKind.wrap .i64 ((bOr .i64 (IntKind.wrap .i64 ((bOr .i64 (IntKind.wrap .i64 ((bOr .i64 0 (IntKind.wrap .i64 (bs.getD 0 0))) * 2 ^ 8)) (IntKind.wrap .i64 (bs.getD 1 0))) * 2 ^ 8)) (IntKind.wrap .i64 (bs.getD 2 0))) * 2 ^ 8)) (IntKind.wrap .i64 (bs.getD 3 0))).fdiv (2 ^ 0)) 1)]) (by kernel_rfl) (by kernel_rfl) ho1 (Nat.le_of_ble_eq_true (by kernel_rfl)) ?_
 intro w16 hw7
 replace hS := Step.transNew hS hw7.step (fun _ _ _ => by omega)
 have ho10 : Own w16 b1 #[.int .i64 (bAnd .i64 ((bOr .i64 (IntKind.wrap .i64 ((bOr .i64 (IntKind.wrap .i64 ((bOr .i64 (IntKind.wrap .i64 ((bOr .i64 0 (IntKind.wrap .i64 (bs.getD 0 0))) * 2 ^ 8)) (IntKind.wrap .i64 (bs.getD 1 0))) * 2 ^ 8)) (IntKind.wrap .i64 (bs.getD 2 0))) * 2 ^ 8)) (IntKind.wrap .i64 (bs.getD 3 0))).fdiv (2 ^ 28)) 15), .int .i64 (bAnd .i64 ((bOr .i64 (IntKind.wrap .i64 ((bOr .i64 (IntKind.wrap .i64 ((bOr .i64 (IntKind.wrap .i64 ((bOr .i64 0 (IntKind.wrap .i64 (bs.getD 0 0))) * 2 ^ 8)) (IntKind.wrap .i64 (bs.getD 1 0))) * 2 ^ 8)) (IntKind.wrap .i64 (bs.getD 2 0))) * 2 ^ 8)) (IntKind.wrap .i64 (bs.getD 3 0))).fdiv (2 ^ 20)) 255), .int .i64 (bAnd .i64 ((bOr .i64 (IntKind.wrap .i64 ((bOr .i64 (IntKind.wrap .i64 ((bOr .i64 (IntKind.wrap .i64 ((bOr .i64 0 (IntKind.wrap .i64 (bs.getD 0 0))) * 2 ^ 8)) (IntKind.wrap .i64 (bs.getD 1 0))) * 2 ^ 8)) (IntKind.wrap .i64 (bs.getD 2 0))) * 2 ^ 8)) (IntKind.wrap .i64 (bs.getD 3 0))).fdiv (2 ^ 4)) 65535), .int .i64 (bAnd .i64 ((bOr .i64 (IntKind.wrap .i64 ((bOr .i64 (IntKind.wrap .i64 ((bOr .i64 (IntKind.wrap .i64 ((bOr .i64 0 (IntKind.wrap .i64 (bs.getD 0 0))) * 2 ^ 8)) (IntKind.wrap .i64 (bs.getD 1 0))) * 2 ^ 8)) (IntKind.wrap .i64 (bs.getD 2 0))) * 2 ^ 8)) (IntKind.wrap .i64 (bs.getD 3 0))).fdiv (2 ^ 1)) 7), .int .i64 (bAnd .i64 ((bOr .i64 (IntKind.wrap .i64 ((bOr .i64 (IntKind.wrap .i64 ((bOr .i64 (IntKind.wrap .i64 ((bOr .i64 0 (IntKind.wrap .i64 (bs.getD 0 0))) * 2 ^ 8)) (IntKind.wrap .i64 (bs.getD 1 0))) * 2 ^ 8)) (IntKind.wrap .i64 (bs.getD 2 0))) * 2 ^ 8)) (IntKind.wrap .i64 (bs.getD 3 0))).fdiv (2 ^ 0)) 1)] 40 := Own.cast hw7.own (by kernel_rfl)
 refine VL_pure 3 [4, 5] [(4, .pointer (some ⟨b1, 0, none⟩)), (5, .int .i64 0)] (by kernel_rfl) rfl ?_
 refine VL_end (by kernel_rfl) ?_
 refine VQ_next ?_
 refine VC_ret ?_
 refine VQ_retC1T1 (T := 40) (.agg #[.int .i64 (bAnd .i64 ((bOr .i64 (IntKind.wrap .i64 ((bOr .i64 (IntKind.wrap .i64 ((bOr .i64 (IntKind.wrap .i64 ((bOr .i64 0 (IntKind.wrap .i64 (bs.getD 0 0))) * 2 ^ 8)) (IntKind.wrap .i64 (bs.getD 1 0))) * 2 ^ 8)) (IntKind.wrap .i64 (bs.getD 2 0))) * 2 ^ 8)) (IntKind.wrap .i64 (bs.getD 3 0))).fdiv (2 ^ 28)) 15), .int .i64 (bAnd .i64 ((bOr .i64 (IntKind.wrap .i64 ((bOr .i64 (IntKind.wrap .i64 ((bOr .i64 (IntKind.wrap .i64 ((bOr .i64 0 (IntKind.wrap .i64 (bs.getD 0 0))) * 2 ^ 8)) (IntKind.wrap .i64 (bs.getD 1 0))) * 2 ^ 8)) (IntKind.wrap .i64 (bs.getD 2 0))) * 2 ^ 8)) (IntKind.wrap .i64 (bs.getD 3 0))).fdiv (2 ^ 20)) 255), .int .i64 (bAnd .i64 ((bOr .i64 (IntKind.wrap .i64 ((bOr .i64 (IntKind.wrap .i64 ((bOr .i64 (IntKind.wrap .i64 ((bOr .i64 0 (IntKind.wrap .i64 (bs.getD 0 0))) * 2 ^ 8)) (IntKind.wrap .i64 (bs.getD 1 0))) * 2 ^ 8)) (IntKind.wrap .i64 (bs.getD 2 0))) * 2 ^ 8)) (IntKind.wrap .i64 (bs.getD 3 0))).fdiv (2 ^ 4)) 65535), .int .i64 (bAnd .i64 ((bOr .i64 (IntKind.wrap .i64 ((bOr .i64 (IntKind.wrap .i64 ((bOr .i64 (IntKind.wrap .i64 ((bOr .i64 0 (IntKind.wrap .i64 (bs.getD 0 0))) * 2 ^ 8)) (IntKind.wrap .i64 (bs.getD 1 0))) * 2 ^ 8)) (IntKind.wrap .i64 (bs.getD 2 0))) * 2 ^ 8)) (IntKind.wrap .i64 (bs.getD 3 0))).fdiv (2 ^ 1)) 7), .int .i64 (bAnd .i64 ((bOr .i64 (IntKind.wrap .i64 ((bOr .i64 (IntKind.wrap .i64 ((bOr .i64 (IntKind.wrap .i64 ((bOr .i64 0 (IntKind.wrap .i64 (bs.getD 0 0))) * 2 ^ 8)) (IntKind.wrap .i64 (bs.getD 1 0))) * 2 ^ 8)) (IntKind.wrap .i64 (bs.getD 2 0))) * 2 ^ 8)) (IntKind.wrap .i64 (bs.getD 3 0))).fdiv (2 ^ 0)) 1)]) (.int .i64 0) (.inr rfl) rfl rfl rfl (Loads.ownL ho10 (n := 5) (by kernel_rfl) (by kernel_rfl) (by kernel_rfl)) ?_
 exact ⟨by rw [unH_raw hn hb]; rfl, hS⟩

end Go.Proofs.YtcablikikkmfjaaGreat
end

section
/- The calculus: append of so many zeros to a nil slice; a value that is known however it is reckoned. -/
set_option linter.unusedVariables false
set_option linter.unusedSimpArgs false
namespace Go.Vc
open Go.RowKit
section
variable {r : Option Nat} {n : Nat} {ds : List Deferred} {P : Program} {ops : Array Oper} {Q : Exit → Act → World → Prop} {l : List (Nat × Value)} {w : World} {i : Nat} {K : List (Nat × Value) → World → Prop} {tbl : List (List Nat)} {m : Nat} {R : World → World → Prop} {ch : List Nat}
/-- append(nil, make(.., k)...): the destination, the element type, k's type, k. -/
def amOp (P : Program) (n : Nat) (ops : Array Oper) (l : List (Nat × Value)) (i : Nat) : Option (Nat × TypeId × Int) :=
  match theOp ops l i with
  | some { dst := some d, op := .call { callee := .builtin .append, args := ags, argTypes := ts }, .. } =>
    match (ts[0]? : Option TypeId), (ts[1]? : Option TypeId), ((ags.map (evL l))[0]? : Option Value), ((ags.map (evL l))[1]? : Option Value) with
    | some t, some t', some (Value.slice none 0 0), some (Value.int _ k) => match P.underlying t, P.underlying t' with
      | some (TypeDesc.slice e), some (TypeDesc.int _) => bif Nat.blt d n && Nat.beq ts.size 2 && Nat.beq ags.size 2 then some (d, e, k) else none
      | _, _ => none
    | _, _, _, _ => none
  | _ => none
theorem V1_appMake {d e bytes : Nat} {k0 : Int} (h : amOp P n ops l i = some (d, e, k0)) (hi : appInfo P e = some (1, bytes)) (k : Nat) (hk : k0 = (k : Nat)) (h0 : 0 < k) (h63 : k ≤ maxLen) (hbytes : k * bytes ≤ 140737488355328)
    (next : ∀ g c cs w1, Own w1 g cs e → cs.size = c → k ≤ c → c ≤ maxLen → ¬ g < w.heap.size → Step No w w1 → K ((d, .slice (some ⟨g, 0, none⟩) k c) :: l) w1) : V1 r n ds P ops Q i l w K := by
  unfold appInfo at hi
  split at hi
  · rename_i inf hinf
    split at hi
    · rename_i z hz
      cases hb : Nat.beq z.cells.size inf.size && Nat.blt 0 inf.size with
      | false => rw [hb] at hi; cases hi
      | true =>
        rw [hb] at hi
        simp only [cond_true, Option.some.injEq, Prod.mk.injEq] at hi
        obtain ⟨hsz, hby⟩ := hi
        simp only [Bool.and_eq_true] at hb
        have hzs := Nat.eq_of_beq_eq_true hb.1
        unfold amOp at h
        split at h
        · rename_i _ d' ags ts ty pos aft gd ho
          split at h
          · rename_i t t' kk k1 h0' h1' hv hx
            split at h
            · rename_i e' kk2 hu hu'
              cases hq : Nat.blt d' n && Nat.beq ts.size 2 && Nat.beq ags.size 2 with
              | false => rw [hq] at h; cases h
              | true =>
                rw [hq] at h
                simp only [cond_true, Option.some.injEq, Prod.mk.injEq] at h
                obtain ⟨rfl, rfl, rfl⟩ := h
                simp only [Bool.and_eq_true] at hq
                obtain ⟨⟨q1, q3⟩, q4⟩ := hq
                have hts := arr2 (Nat.eq_of_beq_eq_true q3) h0' h1'
                have has := arr2 (by simpa using Nat.eq_of_beq_eq_true q4) hv hx
                subst hk
                have hr := Go.Lib.run_append_nil_zeros (P := P) w t t' ty e' inf z kk kk2 hu hu' hinf hz k h0 (by omega) (by simp only [maxLen] at h63; omega) (by rw [hby]; omega)
                have hge := grownCap_ge w k 0 e'
                have hnew : New w.drew (w.drew.alloc (.cells (Builtin.zeroCells z.cells k ++ Builtin.zeroCells z.cells (grownCap w k 0 e' - k)) e')) w.heap.size (.cells (Builtin.zeroCells z.cells k ++ Builtin.zeroCells z.cells (grownCap w k 0 e' - k)) e') := ⟨rfl, rfl⟩
                refine V1_value ho rfl q1 ?_ (next _ _ _ _ hnew.own ?_ hge (grownCap_le_maxLen w k 0 e' h63) (Nat.lt_irrefl _) (Step.trans (drew_step w) (hnew.step No)))
                · simp only [execOp, resolve, invoke, builtin, Sem.run_bind, Sem.run_pure, Result.andThen_ok, has, hts, hr]
                · simp only [Array.size_append, Builtin.zeroCells, Array.size_map, Array.size_range, hzs, hsz]
                  omega
            · cases h
          · cases h
        · cases h
    · cases hi
  · cases hi
theorem VL_appMake {d e bytes : Nat} {k0 : Int} (h : amOp P n ops l i = some (d, e, k0)) (hi' : Nat.blt i ops.size = true) (hi : appInfo P e = some (1, bytes)) (k : Nat) (hk : k0 = (k : Nat)) (h0 : 0 < k) (h63 : k ≤ maxLen) (hbytes : k * bytes ≤ 140737488355328)
    (next : ∀ g c cs w1, Own w1 g cs e → cs.size = c → k ≤ c → c ≤ maxLen → ¬ g < w.heap.size → Step No w w1 → VL r n ds P ops Q (i + 1) ((d, .slice (some ⟨g, 0, none⟩) k c) :: l) w1) : VL r n ds P ops Q i l w :=
  VL_of_V1 hi' (V1_appMake h hi k hk h0 h63 hbytes next)

theorem Loads.slArr0 {B b o N : Nat} {k : IntKind} {bs : List Int} {t : TypeId} (h : Sl w B (some ⟨b, o, none⟩) (iL k bs)) (ht : aggB P t = some N) (hn : bs.length = N) : Loads P t w ⟨b, o, none⟩ (.agg (iA k bs)) := by
  have := Loads.slArr h ht (Nat.le_of_eq hn.symm)
  rwa [List.take_of_length_le (Nat.le_of_eq hn)] at this
/-- A literal of a struct of two parts: the destination, its type, the parts. -/
def b2Op (n : Nat) (ops : Array Oper) (l : List (Nat × Value)) (i : Nat) : Option (Nat × TypeId × Value × Value) :=
  match theOp ops l i with
  | some { dst := some d, op := .build t ps, .. } => match ps.toList with
    | [(0, x), (1, y)] => bif Nat.blt d n then some (d, t, evL l x, evL l y) else none
    | _ => none
  | _ => none
theorem V1_b2 {d t : Nat} {x y v : Value} (h : b2Op n ops l i = some (d, t, x, y)) (hv : ∀ w, (Instr.build t #[(0, x), (1, y)]).run P w = .ok v w) (next : K ((d, v) :: l) w) : V1 r n ds P ops Q i l w K := by
  unfold b2Op at h
  split at h
  · rename_i _ d' t' ps ty pos aft gd ho
    split at h
    · rename_i x' y' hp
      cases hb : Nat.blt d' n with
      | false => rw [hb] at h; cases h
      | true =>
        rw [hb] at h
        simp only [cond_true, Option.some.injEq, Prod.mk.injEq] at h
        obtain ⟨rfl, rfl, rfl, rfl⟩ := h
        refine V1_value ho rfl hb ?_ next
        have hps : ps = #[(0, x'), (1, y')] := by rw [← Array.toArray_toList (xs := ps), hp]
        subst hps
        simp only [execOp, Sem.run_bind, Sem.run_pure, Result.andThen_ok, List.map_toArray, List.map_cons, List.map_nil, hv]
    · cases h
  · cases h
theorem VL_b2 {d t : Nat} {x y v : Value} (h : b2Op n ops l i = some (d, t, x, y)) (hi : Nat.blt i ops.size = true) (hv : ∀ w, (Instr.build t #[(0, x), (1, y)]).run P w = .ok v w) (next : VL r n ds P ops Q (i + 1) ((d, v) :: l) w) : VL r n ds P ops Q i l w :=
  VL_of_V1 hi (V1_b2 h hv next)
theorem VT_stap {k d len N : Nat} {A : Option Addr} {is : List Nat} {kn : List (Nat × Value)} (h : stapOp P n ops (lkn ops tbl m l kn k) k = some (d, A, len, N)) (hd : dstOf ops k = some d) (hN : N ≤ len) (next : VT r n ds P ops Q tbl m l R ch is ((k, .pointer A) :: kn) w) : VT r n ds P ops Q tbl m l R ch (k :: is) kn w :=
  VT_float _ (fun w' hR => V1_stap h hN ⟨⟨d, hd, look_head⟩, Step.refl _ _⟩) next
end
end Go.Vc
end

section
/- The calculus: two results at the end of a function with ranges; a struct's literal of its first part alone. -/
set_option linter.unusedVariables false
set_option linter.unusedSimpArgs false
namespace Go.Vc
open Go.RowKit
section
variable {n : Nat} {l : List (Nat × Value)} {w : World} {P : Program}
theorem VQ_retM2 {fn : Func} {S : Value → World → Prop} {t u : Nat} (v v' : Value) (Ds : List Nat) {e : Exit} (he : e = .normal ∨ e = .ret) (hr : fn.results = #[.tmp t, .tmp u]) (hv : look l t = some v) (hv' : look l u = some v') (hm : Marks Ds w) (hS : ∀ w', Step (fun i => i ∈ Ds) w w' → S (.tuple #[v, v']) w') :
    VQ n (Ds.map markOf) (bodyPostM (Fx none) 0 P fn (PostV S)) e l w := by
  intro a ha
  have : LeavesInM (Fx none) 0 P fn a.tmps (PostV S) a.defers .returning w := by
    rw [ha.defers]
    exact leavesM Ds w hm fun w' hs => ⟨.tuple #[v, v'], by rw [results_tmp2 hr]; simp [Array.getD_eq_getD_getElem?, ha.get t v hv, ha.get u v' hv'], .tuple #[v, v'], rfl, hS w' hs⟩
  rcases he with rfl | rfl <;> exact this
end
section
variable {r : Option Nat} {n : Nat} {ds : List Deferred} {P : Program} {ops : Array Oper} {Q : Exit → Act → World → Prop} {l : List (Nat × Value)} {w : World} {i : Nat} {K : List (Nat × Value) → World → Prop}
def b1Op (n : Nat) (ops : Array Oper) (l : List (Nat × Value)) (i : Nat) : Option (Nat × TypeId × Value) :=
  match theOp ops l i with
  | some { dst := some d, op := .build t ps, .. } => match ps.toList with
    | [(0, x)] => bif Nat.blt d n then some (d, t, evL l x) else none
    | _ => none
  | _ => none
theorem V1_b1 {d t : Nat} {x v : Value} (h : b1Op n ops l i = some (d, t, x)) (hv : ∀ w, (Instr.build t #[(0, x)]).run P w = .ok v w) (next : K ((d, v) :: l) w) : V1 r n ds P ops Q i l w K := by
  unfold b1Op at h
  split at h
  · rename_i _ d' t' ps ty pos aft gd ho
    split at h
    · rename_i x' hp
      cases hb : Nat.blt d' n with
      | false => rw [hb] at h; cases h
      | true =>
        rw [hb] at h
        simp only [cond_true, Option.some.injEq, Prod.mk.injEq] at h
        obtain ⟨rfl, rfl, rfl⟩ := h
        refine V1_value ho rfl hb ?_ next
        have hps : ps = #[(0, x')] := by rw [← Array.toArray_toList (xs := ps), hp]
        subst hps
        simp only [execOp, Sem.run_bind, Sem.run_pure, Result.andThen_ok, List.map_toArray, List.map_cons, List.map_nil, hv]
    · cases h
  · cases h
theorem VL_b1 {d t : Nat} {x v : Value} (h : b1Op n ops l i = some (d, t, x)) (hi : Nat.blt i ops.size = true) (hv : ∀ w, (Instr.build t #[(0, x)]).run P w = .ok v w) (next : VL r n ds P ops Q (i + 1) ((d, v) :: l) w) : VL r n ds P ops Q i l w :=
  VL_of_V1 hi (V1_b1 h hv next)
end
end Go.Vc
end

section
/- Layer 4: a cell as a value: five numbers, and a list of bytes. -/
set_option linter.unusedVariables false
set_option linter.unusedSimpArgs false
namespace Go.Proofs.YtcablikikkmfjaaGreat
open Go.Vc Go.RowKit

abbrev hdV (h : Hd) : Value := .agg #[.int .i64 h.g, .int .i64 h.v, .int .i64 h.c, .int .i64 h.p, .int .i64 h.l]
def cellA (h : Hd) (ps : List Int) : Array Value := #[.int .i64 h.g, .int .i64 h.v, .int .i64 h.c, .int .i64 h.p, .int .i64 h.l] ++ iA .u8 ps
theorem cellA_size {h : Hd} {ps : List Int} : (cellA h ps).size = 5 + ps.length := by
  unfold cellA; rw [Array.size_append, iA_size]; rfl
theorem list48 {ps : List Int} (hp : ps.length = 48) : ps = (List.range 48).map fun i => ps.getD i 0 := by
  apply List.ext_getElem (by simpa using hp)
  intro i h1 h2
  simp [List.getD, h1]
theorem run_build_cell {h : Hd} {ps : List Int} (hp : ps.length = 48) (w : World) : (Instr.build 45 #[(0, hdV h), (1, .agg (iA .u8 ps))]).run Tryz.prog w = .ok (.agg (cellA h ps)) w := by
  rw [list48 hp]
  generalize (fun i => ps.getD i 0) = f
  kernel_rfl
theorem run_build_cell0 {h : Hd} (w : World) : (Instr.build 45 #[(0, hdV h)]).run Tryz.prog w = .ok (.agg (cellA h (List.replicate 48 0))) w := by
  kernel_rfl
theorem set_cellA {h h' : Hd} {ps qs : List Int} (hp : ps.length = 48) (hq : qs.length = 48) : setRow (cellA h qs) 0 (cellA h' ps).toList = cellA h' ps := by
  rw [← Array.toList_inj, setRow_putL _ _ _ (by rw [Array.length_toList, cellA_size, cellA_size, hp, hq]; exact Nat.le_refl _)]
  unfold putL
  rw [List.take_zero, List.nil_append, List.drop_eq_nil_of_le (by rw [Array.length_toList, Array.length_toList, cellA_size, cellA_size]; omega), List.append_nil]
theorem cellA_one {h : Hd} {ps : List Int} : ∀ u ∈ (cellA h ps).toList, oneC u = true := by
  intro u hu
  unfold cellA at hu
  rw [Array.toList_append, List.mem_append] at hu
  rcases hu with hu | hu
  · simp only [List.mem_cons, List.not_mem_nil, or_false] at hu
    rcases hu with rfl | rfl | rfl | rfl | rfl <;> rfl
  · exact iL_one (k := .u8) (bs := ps) u (by simpa [iA] using hu)
theorem VL_storeC {P : Program} {r : Option Nat} {n : Nat} {ds : List Deferred} {ops : Array Oper} {Q : Exit → Act → World → Prop} {l : List (Nat × Value)} {w : World} {i b e : Nat} {h h' : Hd} {ps qs : List Int} (hop : storeOpA P ops l i = some (53, b, 0, .agg (cellA h' ps))) (hi : Nat.blt i ops.size = true) (hB : Own w b (cellA h qs) e) (hp : ps.length = 48) (hq : qs.length = 48)
    (next : ∀ w1, Wr w w1 b (cellA h' ps) e → VL r n ds P ops Q (i + 1) l w1) : VL r n ds P ops Q i l w :=
  VL_of_V1 hi (V1_storeA hop cellA_one (by show (cellA h' ps).size = 53; rw [cellA_size, hp]) hB (by rw [cellA_size, hq]; exact Nat.le_refl _) fun w1 hw => next w1 (by
    have := set_cellA (h := h) (h' := h') hp hq
    simp only [Value.cells] at hw
    rwa [this] at hw))
section
variable {w : World} {b T : Nat} {h : Hd} {ps : List Int}
theorem cellA_get (i : Nat) (hi : i < 5) : (cellA h ps)[i]? = (#[.int .i64 h.g, .int .i64 h.v, .int .i64 h.c, .int .i64 h.p, .int .i64 h.l] : Array Value)[i]? := by
  unfold cellA; rw [Array.getElem?_append_left (by simpa using hi)]
theorem Loads.cellF {t i : Nat} {v : Value} (ho : Own w b (cellA h ps) T) (ht : oneB Tryz.prog t = true) (hi : i < 5) (hv : (#[.int .i64 h.g, .int .i64 h.v, .int .i64 h.c, .int .i64 h.p, .int .i64 h.l] : Array Value)[i]? = some v) : Loads Tryz.prog t w ⟨b, i, none⟩ v :=
  Loads.own1 ho ht (by rw [cellA_get i hi]; exact hv)
theorem Loads.cellH {t : Nat} (ho : Own w b (cellA h ps) T) (ht : aggB Tryz.prog t = some 5) : Loads Tryz.prog t w ⟨b, 0, none⟩ (hdV h) := by
  refine Loads.own (n := 5) ho ht (by rw [cellA_size]; omega) ?_
  unfold cellA
  rw [← Array.toList_inj]
  simp
theorem Loads.cellC {t : Nat} (ho : Own w b (cellA h ps) T) (hp : ps.length = 48) (ht : aggB Tryz.prog t = some 53) : Loads Tryz.prog t w ⟨b, 0, none⟩ (.agg (cellA h ps)) := by
  refine Loads.own (n := 53) ho ht (by rw [cellA_size, hp]; omega) ?_
  rw [Array.extract_eq_self_of_le (by rw [cellA_size, hp]; omega)]
theorem Own.cellP {B : Nat} (ho : Own w b (cellA h ps) T) (hB : b < B) : Sl w B (some ⟨b, 5, none⟩) (iL .u8 ps) := by
  have := Own.slSub ho hB 5 ps.length
  have e : ((cellA h ps).toList.drop 5).take ps.length = iL .u8 ps := by
    unfold cellA
    rw [Array.toList_append]
    simp only [List.cons_append, List.nil_append, List.drop_succ_cons, List.drop_zero]
    unfold iA
    rw [List.take_of_length_le (by simp)]
  rwa [e] at this
theorem Loads.cellP {t : Nat} (ho : Own w b (cellA h ps) T) (hp : ps.length = 48) (ht : aggB Tryz.prog t = some 48) : Loads Tryz.prog t w ⟨b, 5, none⟩ (.agg (iA .u8 ps)) := by
  have := Loads.slArr (t := t) (P := Tryz.prog) (N := 48) (Own.cellP ho (Nat.lt_succ_self b)) ht (by omega)
  rwa [List.take_of_length_le (by omega)] at this
end
end Go.Proofs.YtcablikikkmfjaaGreat
end
