import Derived.Test.YthchmlidobgkoaaGreatProg
import Derived.Test.YthchmlidobgkoaaGreatMb5
section
/- Layer 20, the document's node: one is changed. -/
set_option linter.unusedVariables false
set_option linter.unusedSimpArgs false
set_option maxRecDepth 100000
set_option maxHeartbeats 4000000
namespace Go.Proofs.YthchmlidobgkoaaGreat
open Go.Vc Go.RowKit
theorem TDadaa {P : Prop} (h : P := by intro i hi; first | exact hi.elim | exact .inl hi | ((try simp only at hi ⊢); omega)) : P := h
theorem TDadab {P : Prop} (h : P := by simp only [hg1, Bool.not_true, Bool.not_false]) : P := h
theorem TDadac {P : Prop} (h : P := by exact dused_any nd lo rooms l ((ip : Nat) : Int) ((ip : Nat) : Int) kv kc _ ⟨_, _, _, _, 0, rh, _, ho, hrc, hcn, hrh, hhi, sl_sl2 hrw, hv⟩ hm (butL_le hli _ _ _)) : P := h
theorem TDadad {P : Prop} (h : P := by simp only [hg2, Bool.not_true, Bool.not_false]) : P := h

theorem dchg_eq {rooms : List Int} {l : List Dx} {i : Nat} {v c : Int} {j : Nat} {y : Dx} (h : LI rooms (l.map Dx.x)) (hi : i < rooms.length) (hy : l[j]? = some y) (hk : keyX (i : Nat) v c y.x = true) (hf : findC (l.map Dx.x) (i : Nat) v c = some y.x) : IntKind.wrap .i64 (rooms.getD i 0 - usdL (delC (l.map Dx.x) (i : Nat) v c) (i : Nat)) = leftN rooms (l.map Dx.x) (i : Nat) + needC y.x.k := by
  have h1 : rooms[i]? = some (rooms.getD i 0) := by simp [List.getElem?_eq_getElem hi]
  have h2 := h.rooms _ (List.mem_of_getElem? h1)
  have h3 := h.fit i _ h1
  have h4 := usdL_del h.one (i : Nat) v c (i : Nat)
  have h5 := usdL_nonneg (delC (l.map Dx.x) (i : Nat) v c) (i : Nat)
  have h6 := (keyX_iff.1 hk).1
  rw [hf] at h4
  simp only [h6, if_true] at h4
  have h7 := needC_le y.x.k
  rw [leftN_at h1, wrap_i64 _ (by omega) (by omega)]
  omega
theorem dchange_3a (nd lo hi : Nat) (rooms : List Int) (l : List Dx) (rA : Option Addr) (rc : Nat) (A : Option Addr) (ca : Nat) (kp kv kc : Int) (w : World) (ho : Own w nd #[.slice rA rooms.length rc, .slice A l.length ca] 55) (hcn : l.length ≤ ca) (hhi : hi ≤ w.heap.size) (hv : Sl2 w lo hi A (flat dxc l)) (hnw : nd < lo ∨ hi ≤ nd) (hm : l.length ≤ 64) (rl rh : Nat) (k : Con) (hrc : rooms.length ≤ rc) (hrh : rh ≤ w.heap.size) (hrw : Sl w rh rA (iL .i64 rooms)) (hli : LI rooms (l.map Dx.x)) (hrr : rightB kp kv kc = false)  :
  CV Tryz.prog 13 #[Pt nd 0, .agg #[I6 kp, I6 kv, I6 kc], .agg #[I6 k.kind, I6 k.peak, I6 k.early, I6 k.whole, I6 k.burst, I6 k.least]] w (fun x w1 => x = I6 3 ∧ Step No w w1) := by
 have hS : Step No w w := Step.refl _ _
 have hrm := hli.rm
 refine VCe Tryz.func13 (Vs (Vr ?_))
 have hzs1 := hS.size
 have hzl1 := ho.lt
 have hzk1 := hhi
 have hzk2 := hrh
 refine Vx 0 30 #[I6 kp, I6 kv, I6 kc] ?_
 intro b1 w1 hn1
 replace hS := Step.trans hS (hn1.step No)
 replace ho := ho.no (hn1.step No)
 replace hv := hv.step (hn1.step No) (fun k hk1 hk2 hF => hF)
 replace hhi := Nat.le_trans hhi (hn1.step No).size
 replace hrw := hrw.no (hn1.step No)
 replace hrh := Nat.le_trans hrh (hn1.step No).size
 have ho1 := hn1.own
 have hzhn1 := hn1.size
 have hqhn1 := hn1.eqb
 have hzs2 := hS.size
 have hzl2 := ho.lt
 have hzk3 := hhi
 have hzk4 := hrh
 have hzl3 := ho1.lt
 refine Vx 1 32 #[I6 k.kind, I6 k.peak, I6 k.early, I6 k.whole, I6 k.burst, I6 k.least] ?_
 intro b2 w2 hn2
 replace hS := Step.trans hS (hn2.step No)
 replace ho := ho.no (hn2.step No)
 replace hv := hv.step (hn2.step No) (fun k hk1 hk2 hF => hF)
 replace hhi := Nat.le_trans hhi (hn2.step No).size
 replace hrw := hrw.no (hn2.step No)
 replace hrh := Nat.le_trans hrh (hn2.step No).size
 replace ho1 := ho1.no (hn2.step No)
 have ho2 := hn2.own
 have hzhn2 := hn2.size
 have hqhn2 := hn2.eqb
 refine Ve (Vn (Vs (Vs ?_)))
 have hs1 := drew_step w2
 have hs1z : w2.heap.size = w2.drew.heap.size := rfl
 refine Tx 16 (fun k => w2.heap.size ≤ k) [1] [0, 1, 2, 3, 4, 5, 6, 7, 8, 9, 10, 11, 12, 13, 14, 15] ?_
 have hzs3 := hS.size
 have hzl4 := ho.lt
 have hzl5 := ho1.lt
 have hzl6 := ho2.lt
 have hzo1 := hhi
 have hzo2 := hrh
 generalize w2.drew = w3 at hs1 hs1z ⊢
 replace hS := Step.trans hS hs1
 replace ho := ho.no hs1
 replace hv := hv.step hs1 (fun k hk1 hk2 hF => hF)
 replace hhi := Nat.le_trans hhi (hs1).size
 replace hrw := hrw.no hs1
 replace hrh := Nat.le_trans hrh (hs1).size
 replace ho1 := ho1.no hs1
 replace ho2 := ho2.no hs1
 refine Tl (fun w4 hr1 => ho1.step hr1 (by (try simp only); omega)) (Th ?_)
 intro w5 hs2
 have hzhs2 := hs2.size
 replace hS := Step.trans hS hs2
 replace ho := ho.no hs2
 replace hv := hv.step hs2 (fun k hk1 hk2 hF => hF)
 replace hhi := Nat.le_trans hhi (hs2).size
 replace hrw := hrw.no hs2
 replace hrh := Nat.le_trans hrh (hs2).size
 replace ho1 := ho1.no hs2
 replace ho2 := ho2.no hs2
 have hzs4 := hS.size
 have hzl7 := ho.lt
 have hzl8 := ho1.lt
 have hzl9 := ho2.lt
 refine Tc Tryz.call30 (dkright_any kp kv kc _) ?_ ?_
 ·rintro _ w6 ⟨rfl, hc1⟩
  exact Step.mono hc1 TDadaa
 rintro _ w6 ⟨rfl, hc1⟩
 have hzhc1 := (hc1).size
 replace hS := Step.trans hS hc1
 replace ho := ho.no hc1
 replace hv := hv.step hc1 (fun k hk1 hk2 hF => hF)
 replace hhi := Nat.le_trans hhi (hc1).size
 replace hrw := hrw.no hc1
 replace hrh := Nat.le_trans hrh (hc1).size
 replace ho1 := ho1.no hc1
 replace ho2 := ho2.no hc1
 refine Tp 2 ?_
 have hg1 : (rightB kp kv kc) = false := (by rw [hrr])
 refine Tq [(3, Bo (!(rightB kp kv kc))), (2, Bo (!(rightB kp kv kc))), (1, Bo (rightB kp kv kc))] [(3, Bo true), (2, Bo true), (1, Bo false)] TDadab (Tp 12 (VT_end ?_))
 intro w7 hs3
 replace hS := Step.trans hS hs3
 replace ho := ho.no hs3
 replace hv := hv.step hs3 (fun k hk1 hk2 hF => hF)
 replace hhi := Nat.le_trans hhi (hs3).size
 replace hrw := hrw.no hs3
 replace hrh := Nat.le_trans hrh (hs3).size
 replace ho1 := ho1.no hs3
 replace ho2 := ho2.no hs3
 refine Ve (Vn (Vt (Vrp (VC_ret (VQ_then_ret (Vr1 (I6 3) ?_))))))
 exact ⟨rfl, hS⟩

theorem dchange_3b (nd lo hi : Nat) (rooms : List Int) (l : List Dx) (rA : Option Addr) (rc : Nat) (A : Option Addr) (ca : Nat) (kp kv kc : Int) (w : World) (ho : Own w nd #[.slice rA rooms.length rc, .slice A l.length ca] 55) (hcn : l.length ≤ ca) (hhi : hi ≤ w.heap.size) (hv : Sl2 w lo hi A (flat dxc l)) (hnw : nd < lo ∨ hi ≤ nd) (hm : l.length ≤ 64) (rl rh : Nat) (k : Con) (hrc : rooms.length ≤ rc) (hrh : rh ≤ w.heap.size) (hrw : Sl w rh rA (iL .i64 rooms)) (hli : LI rooms (l.map Dx.x)) (hrr : rightB kp kv kc = true) (hc : kc < 32)  :
  CV Tryz.prog 13 #[Pt nd 0, .agg #[I6 kp, I6 kv, I6 kc], .agg #[I6 k.kind, I6 k.peak, I6 k.early, I6 k.whole, I6 k.burst, I6 k.least]] w (fun x w1 => x = I6 3 ∧ Step No w w1) := by
 have hS : Step No w w := Step.refl _ _
 have hrm := hli.rm
 refine VCe Tryz.func13 (Vs (Vr ?_))
 have hzs1 := hS.size
 have hzl1 := ho.lt
 have hzk1 := hhi
 have hzk2 := hrh
 refine Vx 0 30 #[I6 kp, I6 kv, I6 kc] ?_
 intro b1 w1 hn1
 replace hS := Step.trans hS (hn1.step No)
 replace ho := ho.no (hn1.step No)
 replace hv := hv.step (hn1.step No) (fun k hk1 hk2 hF => hF)
 replace hhi := Nat.le_trans hhi (hn1.step No).size
 replace hrw := hrw.no (hn1.step No)
 replace hrh := Nat.le_trans hrh (hn1.step No).size
 have ho1 := hn1.own
 have hzhn1 := hn1.size
 have hqhn1 := hn1.eqb
 have hzs2 := hS.size
 have hzl2 := ho.lt
 have hzk3 := hhi
 have hzk4 := hrh
 have hzl3 := ho1.lt
 refine Vx 1 32 #[I6 k.kind, I6 k.peak, I6 k.early, I6 k.whole, I6 k.burst, I6 k.least] ?_
 intro b2 w2 hn2
 replace hS := Step.trans hS (hn2.step No)
 replace ho := ho.no (hn2.step No)
 replace hv := hv.step (hn2.step No) (fun k hk1 hk2 hF => hF)
 replace hhi := Nat.le_trans hhi (hn2.step No).size
 replace hrw := hrw.no (hn2.step No)
 replace hrh := Nat.le_trans hrh (hn2.step No).size
 replace ho1 := ho1.no (hn2.step No)
 have ho2 := hn2.own
 have hzhn2 := hn2.size
 have hqhn2 := hn2.eqb
 refine Ve (Vn (Vs (Vs ?_)))
 have hs1 := drew_step w2
 have hs1z : w2.heap.size = w2.drew.heap.size := rfl
 refine Tx 16 (fun k => w2.heap.size ≤ k) [1] [0, 1, 2, 3, 4, 5, 6, 7, 8, 9, 10, 11, 12, 13, 14, 15] ?_
 have hzs3 := hS.size
 have hzl4 := ho.lt
 have hzl5 := ho1.lt
 have hzl6 := ho2.lt
 have hzo1 := hhi
 have hzo2 := hrh
 generalize w2.drew = w3 at hs1 hs1z ⊢
 replace hS := Step.trans hS hs1
 replace ho := ho.no hs1
 replace hv := hv.step hs1 (fun k hk1 hk2 hF => hF)
 replace hhi := Nat.le_trans hhi (hs1).size
 replace hrw := hrw.no hs1
 replace hrh := Nat.le_trans hrh (hs1).size
 replace ho1 := ho1.no hs1
 replace ho2 := ho2.no hs1
 refine Tl (fun w4 hr1 => ho1.step hr1 (by (try simp only); omega)) (Th ?_)
 intro w5 hs2
 have hzhs2 := hs2.size
 replace hS := Step.trans hS hs2
 replace ho := ho.no hs2
 replace hv := hv.step hs2 (fun k hk1 hk2 hF => hF)
 replace hhi := Nat.le_trans hhi (hs2).size
 replace hrw := hrw.no hs2
 replace hrh := Nat.le_trans hrh (hs2).size
 replace ho1 := ho1.no hs2
 replace ho2 := ho2.no hs2
 have hzs4 := hS.size
 have hzl7 := ho.lt
 have hzl8 := ho1.lt
 have hzl9 := ho2.lt
 refine Tc Tryz.call30 (dkright_any kp kv kc _) ?_ ?_
 ·rintro _ w6 ⟨rfl, hc1⟩
  exact Step.mono hc1 TDadaa
 rintro _ w6 ⟨rfl, hc1⟩
 have hzhc1 := (hc1).size
 replace hS := Step.trans hS hc1
 replace ho := ho.no hc1
 replace hv := hv.step hc1 (fun k hk1 hk2 hF => hF)
 replace hhi := Nat.le_trans hhi (hc1).size
 replace hrw := hrw.no hc1
 replace hrh := Nat.le_trans hrh (hc1).size
 replace ho1 := ho1.no hc1
 replace ho2 := ho2.no hc1
 refine Tp 2 ?_
 have hg1 : (rightB kp kv kc) = true := (by rw [hrr])
 refine Tq [(3, Bo (!(rightB kp kv kc))), (2, Bo (!(rightB kp kv kc))), (1, Bo (rightB kp kv kc))] [(3, Bo false), (2, Bo false), (1, Bo true)] TDadab (Tp 1 (Tl (fun w7 hr2 => ho1.step hr2 (by (try simp only); omega)) (Tp 3 ?_)))
 have hg2 : (decide (kc < 32)) = true := (decide_eq_true (by omega))
 refine Tq [(8, Bo (decide (kc < 32))), (7, Bo (decide (kc < 32))), (6, Bo (decide (kc < 32)))] [(8, Bo true), (7, Bo true), (6, Bo true)] TDadad (Tp 7 (VT_end ?_))
 intro w8 hs3
 replace hS := Step.trans hS hs3
 replace ho := ho.no hs3
 replace hv := hv.step hs3 (fun k hk1 hk2 hF => hF)
 replace hhi := Nat.le_trans hhi (hs3).size
 replace hrw := hrw.no hs3
 replace hrh := Nat.le_trans hrh (hs3).size
 replace ho1 := ho1.no hs3
 replace ho2 := ho2.no hs3
 refine Ve (Vn (Vt (Vrp (VC_ret (VQ_then_ret (Vr1 (I6 3) ?_))))))
 exact ⟨rfl, hS⟩

theorem dchange_3c (nd lo hi : Nat) (rooms : List Int) (l : List Dx) (rA : Option Addr) (rc : Nat) (A : Option Addr) (ca : Nat) (kp kv kc : Int) (w : World) (ho : Own w nd #[.slice rA rooms.length rc, .slice A l.length ca] 55) (hcn : l.length ≤ ca) (hhi : hi ≤ w.heap.size) (hv : Sl2 w lo hi A (flat dxc l)) (hnw : nd < lo ∨ hi ≤ nd) (hm : l.length ≤ 64) (rl rh : Nat) (k : Con) (hrc : rooms.length ≤ rc) (hrh : rh ≤ w.heap.size) (hrw : Sl w rh rA (iL .i64 rooms)) (hli : LI rooms (l.map Dx.x)) (hrr : rightB kp kv kc = true) (hc : ¬ kc < 32) (hp : kp ≥ rooms.length)  :
  CV Tryz.prog 13 #[Pt nd 0, .agg #[I6 kp, I6 kv, I6 kc], .agg #[I6 k.kind, I6 k.peak, I6 k.early, I6 k.whole, I6 k.burst, I6 k.least]] w (fun x w1 => x = I6 3 ∧ Step No w w1) := by
 have hS : Step No w w := Step.refl _ _
 refine VCe Tryz.func13 (Vs (Vr ?_))
 have hzl1 := ho.lt
 refine Vx 0 30 #[I6 kp, I6 kv, I6 kc] ?_
 intro b1 w1 hn1
 replace hS := Step.trans hS (hn1.step No)
 replace ho := ho.no (hn1.step No)
 have ho1 := hn1.own
 have hzhn1 := hn1.size
 have hqhn1 := hn1.eqb
 refine Vx 1 32 #[I6 k.kind, I6 k.peak, I6 k.early, I6 k.whole, I6 k.burst, I6 k.least] ?_
 intro b2 w2 hn2
 replace hS := Step.trans hS (hn2.step No)
 replace ho := ho.no (hn2.step No)
 replace ho1 := ho1.no (hn2.step No)
 have hzhn2 := hn2.size
 have hqhn2 := hn2.eqb
 refine Ve (Vn (Vs (Vs ?_)))
 have hs1 := drew_step w2
 have hs1z : w2.heap.size = w2.drew.heap.size := rfl
 refine Tx 16 (fun k => w2.heap.size ≤ k) [1] [0, 1, 2, 3, 4, 5, 6, 7, 8, 9, 10, 11, 12, 13, 14, 15] ?_
 generalize w2.drew = w3 at hs1 hs1z ⊢
 replace hS := Step.trans hS hs1
 replace ho := ho.no hs1
 replace ho1 := ho1.no hs1
 refine Tl (fun w4 hr1 => ho1.step hr1 (by (try simp only); omega)) (Th ?_)
 intro w5 hs2
 replace hS := Step.trans hS hs2
 replace ho := ho.no hs2
 replace ho1 := ho1.no hs2
 refine Tc Tryz.call30 (dkright_any kp kv kc _) ?_ ?_
 ·rintro _ w6 ⟨rfl, hc1⟩
  exact Step.mono hc1 TDadaa
 rintro _ w6 ⟨rfl, hc1⟩
 replace hS := Step.trans hS hc1
 replace ho := ho.no hc1
 replace ho1 := ho1.no hc1
 refine Tp 2 ?_
 have hg1 : (rightB kp kv kc) = true := (by rw [hrr])
 refine Tq [(3, Bo (!(rightB kp kv kc))), (2, Bo (!(rightB kp kv kc))), (1, Bo (rightB kp kv kc))] [(3, Bo false), (2, Bo false), (1, Bo true)] TDadab (Tp 1 (Tl (fun w7 hr2 => ho1.step hr2 (by (try simp only); omega)) (Tp 3 ?_)))
 have hg2 : (decide (kc < 32)) = false := (decide_eq_false (by omega))
 refine Tq [(8, Bo (decide (kc < 32))), (7, Bo (decide (kc < 32))), (6, Bo (decide (kc < 32)))] [(8, Bo false), (7, Bo false), (6, Bo false)] TDadad (Tp 1 (Tl (fun w8 hr3 => ho1.step hr3 (by (try simp only); omega)) (Tp 3 (Tl (fun w9 hr4 => ho.step hr4 (by (try simp only); omega)) (Tp 1 (VT_end ?_))))))
 intro w10 hs3
 replace hS := Step.trans hS hs3
 refine Ve (Vn (Vit (b := decide (kp ≥ ((rooms.length : Nat) : Int))) (decide_eq_true (by omega)) (Vrp (VC_ret (VQ_then_ret (Vr1 (I6 3) ?_))))))
 exact ⟨rfl, hS⟩

theorem dchange_73 (nd lo hi : Nat) (rooms : List Int) (l : List Dx) (rA : Option Addr) (rc : Nat) (A : Option Addr) (ca : Nat) (kp kv kc : Int) (w : World) (ho : Own w nd #[.slice rA rooms.length rc, .slice A l.length ca] 55) (hcn : l.length ≤ ca) (hhi : hi ≤ w.heap.size) (hv : Sl2 w lo hi A (flat dxc l)) (hnw : nd < lo ∨ hi ≤ nd) (hm : l.length ≤ 64) (rl rh : Nat) (k : Con) (hrc : rooms.length ≤ rc) (hrh : rh ≤ w.heap.size) (hrw : Sl w rh rA (iL .i64 rooms)) (hli : LI rooms (l.map Dx.x)) (hrr : rightB kp kv kc = true) (hc : ¬ kc < 32) (hp : ¬ kp ≥ rooms.length) (hk : rightC k ≠ 0) :
  CV Tryz.prog 13 #[Pt nd 0, .agg #[I6 kp, I6 kv, I6 kc], .agg #[I6 k.kind, I6 k.peak, I6 k.early, I6 k.whole, I6 k.burst, I6 k.least]] w (fun x w1 => x = I6 73 ∧ Step No w w1) := by
 have hS : Step No w w := Step.refl _ _
 refine VCe Tryz.func13 (Vs (Vr ?_))
 have hzl1 := ho.lt
 refine Vx 0 30 #[I6 kp, I6 kv, I6 kc] ?_
 intro b1 w1 hn1
 replace hS := Step.trans hS (hn1.step No)
 replace ho := ho.no (hn1.step No)
 have ho1 := hn1.own
 have hzhn1 := hn1.size
 have hqhn1 := hn1.eqb
 refine Vx 1 32 #[I6 k.kind, I6 k.peak, I6 k.early, I6 k.whole, I6 k.burst, I6 k.least] ?_
 intro b2 w2 hn2
 replace hS := Step.trans hS (hn2.step No)
 replace ho := ho.no (hn2.step No)
 replace ho1 := ho1.no (hn2.step No)
 have ho2 := hn2.own
 have hzhn2 := hn2.size
 have hqhn2 := hn2.eqb
 refine Ve (Vn (Vs (Vs ?_)))
 have hs1 := drew_step w2
 have hs1z : w2.heap.size = w2.drew.heap.size := rfl
 refine Tx 16 (fun k => w2.heap.size ≤ k) [1] [0, 1, 2, 3, 4, 5, 6, 7, 8, 9, 10, 11, 12, 13, 14, 15] ?_
 generalize w2.drew = w3 at hs1 hs1z ⊢
 replace hS := Step.trans hS hs1
 replace ho := ho.no hs1
 replace ho1 := ho1.no hs1
 replace ho2 := ho2.no hs1
 refine Tl (fun w4 hr1 => ho1.step hr1 (by (try simp only); omega)) (Th ?_)
 intro w5 hs2
 replace hS := Step.trans hS hs2
 replace ho := ho.no hs2
 replace ho1 := ho1.no hs2
 replace ho2 := ho2.no hs2
 refine Tc Tryz.call30 (dkright_any kp kv kc _) ?_ ?_
 ·rintro _ w6 ⟨rfl, hc1⟩
  exact Step.mono hc1 TDadaa
 rintro _ w6 ⟨rfl, hc1⟩
 replace hS := Step.trans hS hc1
 replace ho := ho.no hc1
 replace ho1 := ho1.no hc1
 replace ho2 := ho2.no hc1
 refine Tp 2 ?_
 have hg1 : (rightB kp kv kc) = true := (by rw [hrr])
 refine Tq [(3, Bo (!(rightB kp kv kc))), (2, Bo (!(rightB kp kv kc))), (1, Bo (rightB kp kv kc))] [(3, Bo false), (2, Bo false), (1, Bo true)] TDadab (Tp 1 (Tl (fun w7 hr2 => ho1.step hr2 (by (try simp only); omega)) (Tp 3 ?_)))
 have hg2 : (decide (kc < 32)) = false := (decide_eq_false (by omega))
 refine Tq [(8, Bo (decide (kc < 32))), (7, Bo (decide (kc < 32))), (6, Bo (decide (kc < 32)))] [(8, Bo false), (7, Bo false), (6, Bo false)] TDadad (Tp 1 (Tl (fun w8 hr3 => ho1.step hr3 (by (try simp only); omega)) (Tp 3 (Tl (fun w9 hr4 => ho.step hr4 (by (try simp only); omega)) (Tp 1 (VT_end ?_))))))
 intro w10 hs3
 replace hS := Step.trans hS hs3
 replace ho2 := ho2.no hs3
 refine Ve (Vn (Viz (b := decide (kp ≥ ((rooms.length : Nat) : Int))) (decide_eq_false (by omega)) (VC_skip (Vn (Vs (Vs (Vr (Vl 0 ho2 ?_))))))))
 refine Vc 1 Tryz.call31 (dright_any k _) ?_
 rintro _ w11 ⟨rfl, hc2⟩
 replace hS := Step.trans hS hc2
 refine Ve (Vn (Vit (b := (rightC k) != 0) (by simpa using hk) (Vrp (VC_ret (VQ_then_ret (Vr1 (I6 73) ?_))))))
 exact ⟨rfl, hS⟩

theorem dchange_81 (nd lo hi : Nat) (rooms : List Int) (l : List Dx) (rA : Option Addr) (rc : Nat) (A : Option Addr) (ca : Nat) (kp kv kc : Int) (w : World) (ho : Own w nd #[.slice rA rooms.length rc, .slice A l.length ca] 55) (hcn : l.length ≤ ca) (hhi : hi ≤ w.heap.size) (hv : Sl2 w lo hi A (flat dxc l)) (hnw : nd < lo ∨ hi ≤ nd) (hm : l.length ≤ 64) (rl rh : Nat) (k : Con) (hrc : rooms.length ≤ rc) (hrh : rh ≤ w.heap.size) (hrw : Sl w rh rA (iL .i64 rooms)) (hli : LI rooms (l.map Dx.x)) (hrr : rightB kp kv kc = true) (hc : ¬ kc < 32) (hp : ¬ kp ≥ rooms.length) (hk : rightC k = 0) (hat : atD l kp kv kc = -1) :
  CV Tryz.prog 13 #[Pt nd 0, .agg #[I6 kp, I6 kv, I6 kc], .agg #[I6 k.kind, I6 k.peak, I6 k.early, I6 k.whole, I6 k.burst, I6 k.least]] w (fun x w1 => x = I6 81 ∧ Step No w w1) := by
 have hS : Step No w w := Step.refl _ _
 refine VCe Tryz.func13 (Vs (Vr ?_))
 have hzl1 := ho.lt
 refine Vx 0 30 #[I6 kp, I6 kv, I6 kc] ?_
 intro b1 w1 hn1
 replace hS := Step.trans hS (hn1.step No)
 replace ho := ho.no (hn1.step No)
 replace hv := hv.step (hn1.step No) (fun k hk1 hk2 hF => hF)
 replace hhi := Nat.le_trans hhi (hn1.step No).size
 have ho1 := hn1.own
 have hzhn1 := hn1.size
 have hqhn1 := hn1.eqb
 refine Vx 1 32 #[I6 k.kind, I6 k.peak, I6 k.early, I6 k.whole, I6 k.burst, I6 k.least] ?_
 intro b2 w2 hn2
 replace hS := Step.trans hS (hn2.step No)
 replace ho := ho.no (hn2.step No)
 replace hv := hv.step (hn2.step No) (fun k hk1 hk2 hF => hF)
 replace hhi := Nat.le_trans hhi (hn2.step No).size
 replace ho1 := ho1.no (hn2.step No)
 have ho2 := hn2.own
 have hzhn2 := hn2.size
 have hqhn2 := hn2.eqb
 refine Ve (Vn (Vs (Vs ?_)))
 have hs1 := drew_step w2
 have hs1z : w2.heap.size = w2.drew.heap.size := rfl
 refine Tx 16 (fun k => w2.heap.size ≤ k) [1] [0, 1, 2, 3, 4, 5, 6, 7, 8, 9, 10, 11, 12, 13, 14, 15] ?_
 generalize w2.drew = w3 at hs1 hs1z ⊢
 replace hS := Step.trans hS hs1
 replace ho := ho.no hs1
 replace hv := hv.step hs1 (fun k hk1 hk2 hF => hF)
 replace hhi := Nat.le_trans hhi (hs1).size
 replace ho1 := ho1.no hs1
 replace ho2 := ho2.no hs1
 refine Tl (fun w4 hr1 => ho1.step hr1 (by (try simp only); omega)) (Th ?_)
 intro w5 hs2
 replace hS := Step.trans hS hs2
 replace ho := ho.no hs2
 replace hv := hv.step hs2 (fun k hk1 hk2 hF => hF)
 replace hhi := Nat.le_trans hhi (hs2).size
 replace ho1 := ho1.no hs2
 replace ho2 := ho2.no hs2
 refine Tc Tryz.call30 (dkright_any kp kv kc _) ?_ ?_
 ·rintro _ w6 ⟨rfl, hc1⟩
  exact Step.mono hc1 TDadaa
 rintro _ w6 ⟨rfl, hc1⟩
 replace hS := Step.trans hS hc1
 replace ho := ho.no hc1
 replace hv := hv.step hc1 (fun k hk1 hk2 hF => hF)
 replace hhi := Nat.le_trans hhi (hc1).size
 replace ho1 := ho1.no hc1
 replace ho2 := ho2.no hc1
 refine Tp 2 ?_
 have hg1 : (rightB kp kv kc) = true := (by rw [hrr])
 refine Tq [(3, Bo (!(rightB kp kv kc))), (2, Bo (!(rightB kp kv kc))), (1, Bo (rightB kp kv kc))] [(3, Bo false), (2, Bo false), (1, Bo true)] TDadab (Tp 1 (Tl (fun w7 hr2 => ho1.step hr2 (by (try simp only); omega)) (Tp 3 ?_)))
 have hg2 : (decide (kc < 32)) = false := (decide_eq_false (by omega))
 refine Tq [(8, Bo (decide (kc < 32))), (7, Bo (decide (kc < 32))), (6, Bo (decide (kc < 32)))] [(8, Bo false), (7, Bo false), (6, Bo false)] TDadad (Tp 1 (Tl (fun w8 hr3 => ho1.step hr3 (by (try simp only); omega)) (Tp 3 (Tl (fun w9 hr4 => ho.step hr4 (by (try simp only); omega)) (Tp 1 (VT_end ?_))))))
 intro w10 hs3
 replace hS := Step.trans hS hs3
 replace ho := ho.no hs3
 replace hv := hv.step hs3 (fun k hk1 hk2 hF => hF)
 replace hhi := Nat.le_trans hhi (hs3).size
 replace ho1 := ho1.no hs3
 replace ho2 := ho2.no hs3
 refine Ve (Vn (Viz (b := decide (kp ≥ ((rooms.length : Nat) : Int))) (decide_eq_false (by omega)) (VC_skip (Vn (Vs (Vs (Vr (Vl 0 ho2 ?_))))))))
 refine Vc 1 Tryz.call31 ((dright_any k _).mono (fun x w1 h9 => ⟨h9.1.trans (by rw [hk]), h9.2⟩ : ∀ x w1, _ → x = I6 0 ∧ Step No _ w1)) ?_
 rintro _ w11 ⟨rfl, hc2⟩
 replace hS := Step.trans hS hc2
 replace ho := ho.no hc2
 replace hv := hv.step hc2 (fun k hk1 hk2 hF => hF)
 replace hhi := Nat.le_trans hhi (hc2).size
 replace ho1 := ho1.no hc2
 refine Ve (Vn (Vf (VC_skip (Vn (Vs (Vr (Vl 1 ho1 ?_)))))))
 refine Vc 2 Tryz.call32 ((dat_any _ _ _ _ _ _ _ _ _ kp kv kc _ ho hcn hhi hv hm).mono (fun x w1 h9 => by rw [hat] at h9; exact h9)) ?_
 rintro _ w12 ⟨rfl, hc3⟩
 replace hS := Step.trans hS hc3
 refine Ve (Vn (Vs (Vrp (Vt (Vrp (VC_ret (VQ_then_ret (Vr1 (I6 81) ?_))))))))
 exact ⟨rfl, hS⟩

theorem dchange_37 (nd lo hi : Nat) (rooms : List Int) (l : List Dx) (rA : Option Addr) (rc : Nat) (A : Option Addr) (ca : Nat) (ip : Nat) (kv kc : Int) (w : World) (ho : Own w nd #[.slice rA rooms.length rc, .slice A l.length ca] 55) (hcn : l.length ≤ ca) (hhi : hi ≤ w.heap.size) (hv : Sl2 w lo hi A (flat dxc l)) (hnw : nd < lo ∨ hi ≤ nd) (hm : l.length ≤ 64) (rl rh : Nat) (k : Con) (hrc : rooms.length ≤ rc) (hrh : rh ≤ w.heap.size) (hrw : Sl w rh rA (iL .i64 rooms)) (hli : LI rooms (l.map Dx.x)) (hrr : rightB (ip : Nat) kv kc = true) (hc : ¬ kc < 32) (hp : ip < rooms.length) (hk : rightC k = 0) (i : Nat) (y : Dx) (hat : atD l (ip : Nat) kv kc = (i : Nat)) (hy : l[i]? = some y) (hky : keyX (ip : Nat) kv kc y.x = true) (hfy : findC (l.map Dx.x) (ip : Nat) kv kc = some y.x) (hgt : needC k > leftN rooms (l.map Dx.x) (ip : Nat) + needC y.x.k) :
  CV Tryz.prog 13 #[.pointer (some ⟨nd, 0, none⟩), .agg #[.int .i64 ((ip : Nat) : Int), .int .i64 kv, .int .i64 kc], .agg #[.int .i64 k.kind, .int .i64 k.peak, .int .i64 k.early, .int .i64 k.whole, .int .i64 k.burst, .int .i64 k.least]] w (fun x w1 => x = .int .i64 37 ∧ Step No w w1) := by
 have hS : Step No w w := Step.refl _ _
 have hrm := hli.rm
 refine CV_enter Tryz.f13 _ 70 [(0, .pointer (some ⟨nd, 0, none⟩)), (1, .agg #[.int .i64 ((ip : Nat) : Int), .int .i64 kv, .int .i64 kc]), (2, .agg #[.int .i64 k.kind, .int .i64 k.peak, .int .i64 k.early, .int .i64 k.whole, .int .i64 k.burst, .int .i64 k.least])] Tryz.func13 rfl rfl (by kernel_rfl) rfl ?_
 refine VC_seq ?_
 refine VC_region ?_
 have hzl1 := ho.lt
 refine VL_box (d := 4) (t := 30) (c := #[.int .i64 ((ip : Nat) : Int), .int .i64 kv, .int .i64 kc]) (by kernel_rfl) (by kernel_rfl) ?_
 intro b1 w1 hn1
 replace hS := Step.trans hS (hn1.step No)
 replace ho := ho.no (hn1.step No)
 replace hv := hv.step (hn1.step No) (fun k hk1 hk2 hF => hF)
 replace hhi := Nat.le_trans hhi (hn1.step No).size
 replace hrw := hrw.no (hn1.step No)
 replace hrh := Nat.le_trans hrh (hn1.step No).size
 have ho1 := hn1.own
 have hzhn1 := hn1.size
 have hqhn1 := hn1.eqb
 refine VL_box (d := 5) (t := 32) (c := #[.int .i64 k.kind, .int .i64 k.peak, .int .i64 k.early, .int .i64 k.whole, .int .i64 k.burst, .int .i64 k.least]) (by kernel_rfl) (by kernel_rfl) ?_
 intro b2 w2 hn2
 replace hS := Step.trans hS (hn2.step No)
 replace ho := ho.no (hn2.step No)
 replace hv := hv.step (hn2.step No) (fun k hk1 hk2 hF => hF)
 replace hhi := Nat.le_trans hhi (hn2.step No).size
 replace hrw := hrw.no (hn2.step No)
 replace hrh := Nat.le_trans hrh (hn2.step No).size
 replace ho1 := ho1.no (hn2.step No)
 have ho2 := hn2.own
 have hzhn2 := hn2.size
 have hqhn2 := hn2.eqb
 refine VL_pure 3 [0, 4, 5] [(0, .pointer (some ⟨nd, 0, none⟩)), (4, .pointer (some ⟨b1, 0, none⟩)), (5, .pointer (some ⟨b2, 0, none⟩))] (by kernel_rfl) rfl ?_
 refine VL_end (by kernel_rfl) ?_
 refine VQ_next ?_
 refine VC_seq ?_
 refine VC_seq ?_
 have hs1 := drew_step w2
 have hs1z : w2.heap.size = w2.drew.heap.size := rfl
 refine VC_text [[], [0], [0, 1], [0, 1, 2], [0, 1, 2, 3], [0, 1, 2, 3, 4], [0, 1, 2, 3, 4, 5], [0, 1, 2, 3, 4, 5, 6], [0, 1, 2, 3, 4, 5, 6, 7], [0, 1, 2, 3, 4, 5, 6, 7, 8], [0, 1, 2, 3, 4, 5, 6, 7, 8, 9], [0, 1, 2, 3, 4, 5, 6, 7, 8], [0, 1, 2, 3, 4, 5, 6, 7, 8, 11], [0, 1, 2, 3, 4, 5, 6, 7, 8, 11, 12], [0, 1, 2, 3, 4, 5, 6, 7, 8, 11, 12, 13], [0, 1, 2, 3, 4, 5, 6, 7, 8, 11, 12, 13, 14], [0, 1, 2, 3, 4, 5, 6, 7, 8, 9, 10, 11, 12, 13, 14, 15], [0, 1, 2, 3, 4, 5, 6, 7, 8, 9, 10, 11, 12, 13, 14, 15, 16]] 16 (fun x y => Step (fun k => w2.heap.size ≤ k) x y) [1] [0, 1, 2, 3, 4, 5, 6, 7, 8, 9, 10, 11, 12, 13, 14, 15] (by kernel_rfl) (by kernel_rfl) (by kernel_rfl) (by kernel_rfl) (fun x => Step.refl _ x) (fun h k => Step.trans h k) Step.weak ?_
 generalize w2.drew = w3 at hs1 hs1z ⊢
 replace hS := Step.trans hS hs1
 replace ho := ho.no hs1
 replace hv := hv.step hs1 (fun k hk1 hk2 hF => hF)
 replace hhi := Nat.le_trans hhi (hs1).size
 replace hrw := hrw.no hs1
 replace hrh := Nat.le_trans hrh (hs1).size
 replace ho1 := ho1.no hs1
 replace ho2 := ho2.no hs1
 refine VT_load (d := 9) (t := 30) (a := ⟨b1, 0, none⟩) (v := .agg #[.int .i64 ((ip : Nat) : Int), .int .i64 kv, .int .i64 kc]) (by kernel_rfl) (by kernel_rfl) ?_ ?_
 ·intro w4 hr1
  replace ho1 := ho1.step hr1 (by (try simp only); omega)
  exact (Loads.ownL ho1 (n := 3) (by kernel_rfl) (by kernel_rfl) (by kernel_rfl))
 refine VT_chain (by kernel_rfl) ?_
 intro w5 hs2
 replace hS := Step.trans hS hs2
 replace ho := ho.no hs2
 replace hv := hv.step hs2 (fun k hk1 hk2 hF => hF)
 replace hhi := Nat.le_trans hhi (hs2).size
 replace hrw := hrw.no hs2
 replace hrh := Nat.le_trans hrh (hs2).size
 replace ho1 := ho1.no hs2
 replace ho2 := ho2.no hs2
 refine VTc_call (d := 10) (f := 30) (args := #[.agg #[.int .i64 ((ip : Nat) : Int), .int .i64 kv, .int .i64 kc]]) (by kernel_rfl) (by kernel_rfl) (by kernel_rfl) Tryz.call30 (dkright_any ((ip : Nat) : Int) kv kc _) ?_ ?_
 ·rintro _ w6 ⟨rfl, hc1⟩
  exact Step.mono hc1 TDadaa
 rintro _ w6 ⟨rfl, hc1⟩
 replace hS := Step.trans hS hc1
 replace ho := ho.no hc1
 replace hv := hv.step hc1 (fun k hk1 hk2 hF => hF)
 replace hhi := Nat.le_trans hhi (hc1).size
 replace hrw := hrw.no hc1
 replace hrh := Nat.le_trans hrh (hc1).size
 replace ho1 := ho1.no hc1
 replace ho2 := ho2.no hc1
 refine VT_pures 2 (kn' := [(3, .bool (!(rightB ((ip : Nat) : Int) kv kc))), (2, .bool (!(rightB ((ip : Nat) : Int) kv kc))), (1, .bool (rightB ((ip : Nat) : Int) kv kc)), (0, .agg #[.int .i64 ((ip : Nat) : Int), .int .i64 kv, .int .i64 kc])]) (by kernel_rfl) ?_
 have hg1 : (rightB ((ip : Nat) : Int) kv kc) = true := (by rw [hrr])
 refine VT_eq [(3, .bool false), (2, .bool false), (1, .bool true), (0, .agg #[.int .i64 ((ip : Nat) : Int), .int .i64 kv, .int .i64 kc])] TDadab ?_
 refine VT_pures 1 (kn' := [(4, .pointer (some ⟨b1, 2, none⟩)), (3, .bool false), (2, .bool false), (1, .bool true), (0, .agg #[.int .i64 ((ip : Nat) : Int), .int .i64 kv, .int .i64 kc])]) (by kernel_rfl) ?_
 refine VT_load (d := 14) (t := 3) (a := ⟨b1, 2, none⟩) (v := .int .i64 kc) (by kernel_rfl) (by kernel_rfl) ?_ ?_
 ·intro w7 hr2
  replace ho1 := ho1.step hr2 (by (try simp only); omega)
  exact (Loads.own1 ho1 (by kernel_rfl) (by rfl))
 refine VT_pures 3 (kn' := [(8, .bool (decide (kc < 32))), (7, .bool (decide (kc < 32))), (6, .bool (decide (kc < 32))), (5, .int .i64 kc), (4, .pointer (some ⟨b1, 2, none⟩)), (3, .bool false), (2, .bool false), (1, .bool true), (0, .agg #[.int .i64 ((ip : Nat) : Int), .int .i64 kv, .int .i64 kc])]) (by kernel_rfl) ?_
 have hg2 : (decide (kc < 32)) = false := (decide_eq_false (by omega))
 refine VT_eq [(8, .bool false), (7, .bool false), (6, .bool false), (5, .int .i64 kc), (4, .pointer (some ⟨b1, 2, none⟩)), (3, .bool false), (2, .bool false), (1, .bool true), (0, .agg #[.int .i64 ((ip : Nat) : Int), .int .i64 kv, .int .i64 kc])] TDadad ?_
 refine VT_pures 1 (kn' := [(9, .pointer (some ⟨b1, 0, none⟩)), (8, .bool false), (7, .bool false), (6, .bool false), (5, .int .i64 kc), (4, .pointer (some ⟨b1, 2, none⟩)), (3, .bool false), (2, .bool false), (1, .bool true), (0, .agg #[.int .i64 ((ip : Nat) : Int), .int .i64 kv, .int .i64 kc])]) (by kernel_rfl) ?_
 refine VT_load (d := 19) (t := 3) (a := ⟨b1, 0, none⟩) (v := .int .i64 ((ip : Nat) : Int)) (by kernel_rfl) (by kernel_rfl) ?_ ?_
 ·intro w8 hr3
  replace ho1 := ho1.step hr3 (by (try simp only); omega)
  exact (Loads.own1 ho1 (by kernel_rfl) (by rfl))
 refine VT_pures 3 (kn' := [(13, .pointer (some ⟨nd, 0, none⟩)), (12, .pointer (some ⟨nd, 0, none⟩)), (11, .pointer (some ⟨nd, 0, none⟩)), (10, .int .i64 ((ip : Nat) : Int)), (9, .pointer (some ⟨b1, 0, none⟩)), (8, .bool false), (7, .bool false), (6, .bool false), (5, .int .i64 kc), (4, .pointer (some ⟨b1, 2, none⟩)), (3, .bool false), (2, .bool false), (1, .bool true), (0, .agg #[.int .i64 ((ip : Nat) : Int), .int .i64 kv, .int .i64 kc])]) (by kernel_rfl) ?_
 refine VT_load (d := 23) (t := 22) (a := ⟨nd, 0, none⟩) (v := .slice rA rooms.length rc) (by kernel_rfl) (by kernel_rfl) ?_ ?_
 ·intro w9 hr4
  replace ho := ho.step hr4 (by (try simp only); omega)
  exact (Loads.own1 ho (by kernel_rfl) (by rfl))
 refine VT_pures 1 (kn' := [(15, .int .i64 ((rooms.length : Nat) : Int)), (14, .slice rA rooms.length rc), (13, .pointer (some ⟨nd, 0, none⟩)), (12, .pointer (some ⟨nd, 0, none⟩)), (11, .pointer (some ⟨nd, 0, none⟩)), (10, .int .i64 ((ip : Nat) : Int)), (9, .pointer (some ⟨b1, 0, none⟩)), (8, .bool false), (7, .bool false), (6, .bool false), (5, .int .i64 kc), (4, .pointer (some ⟨b1, 2, none⟩)), (3, .bool false), (2, .bool false), (1, .bool true), (0, .agg #[.int .i64 ((ip : Nat) : Int), .int .i64 kv, .int .i64 kc])]) (by kernel_rfl) ?_
 refine VT_end ?_
 intro w10 hs3
 replace hS := Step.trans hS hs3
 replace ho := ho.no hs3
 replace hv := hv.step hs3 (fun k hk1 hk2 hF => hF)
 replace hhi := Nat.le_trans hhi (hs3).size
 replace hrw := hrw.no hs3
 replace hrh := Nat.le_trans hrh (hs3).size
 replace ho1 := ho1.no hs3
 replace ho2 := ho2.no hs3
 refine VL_keep [0, 4, 5, 17, 19, 24] [(0, .pointer (some ⟨nd, 0, none⟩)), (4, .pointer (some ⟨b1, 0, none⟩)), (5, .pointer (some ⟨b2, 0, none⟩)), (17, .bool false), (19, .int .i64 ((ip : Nat) : Int)), (24, .int .i64 ((rooms.length : Nat) : Int))] (by kernel_rfl) ?_
 refine VL_pure 18 [0, 4, 5, 26] [(0, .pointer (some ⟨nd, 0, none⟩)), (4, .pointer (some ⟨b1, 0, none⟩)), (5, .pointer (some ⟨b2, 0, none⟩)), (26, .bool (decide (((ip : Nat) : Int) ≥ ((rooms.length : Nat) : Int))))] (by kernel_rfl) rfl ?_
 refine VL_end (by kernel_rfl) ?_
 refine VQ_next ?_
 refine VC_is (b := decide (((ip : Nat) : Int) ≥ ((rooms.length : Nat) : Int))) false (by kernel_rfl) (decide_eq_false (by omega)) ?_
 refine VC_ite_false ?_
 refine VC_skip ?_
 refine VQ_next ?_
 refine VC_seq ?_
 refine VC_seq ?_
 refine VC_region ?_
 refine VL_load (d := 27) (t := 32) (a := ⟨b2, 0, none⟩) (v := .agg #[.int .i64 k.kind, .int .i64 k.peak, .int .i64 k.early, .int .i64 k.whole, .int .i64 k.burst, .int .i64 k.least]) (by kernel_rfl) (by kernel_rfl) (Loads.ownL ho2 (n := 6) (by kernel_rfl) (by kernel_rfl) (by kernel_rfl)) ?_
 refine VL_call (d := 28) (f := 31) (args := #[.agg #[.int .i64 k.kind, .int .i64 k.peak, .int .i64 k.early, .int .i64 k.whole, .int .i64 k.burst, .int .i64 k.least]]) (by kernel_rfl) (by kernel_rfl) (by kernel_rfl) Tryz.call31 ((dright_any k _).mono (fun x w1 h9 => ⟨h9.1.trans (by rw [hk]), h9.2⟩ : ∀ x w1, _ → x = .int .i64 0 ∧ Step No _ w1)) ?_
 rintro _ w11 ⟨rfl, hc2⟩
 replace hS := Step.trans hS hc2
 replace ho := ho.no hc2
 replace hv := hv.step hc2 (fun k hk1 hk2 hF => hF)
 replace hhi := Nat.le_trans hhi (hc2).size
 replace hrw := hrw.no hc2
 replace hrh := Nat.le_trans hrh (hc2).size
 replace ho1 := ho1.no hc2
 replace ho2 := ho2.no hc2
 refine VL_pure 3 [0, 4, 5, 29] [(0, .pointer (some ⟨nd, 0, none⟩)), (4, .pointer (some ⟨b1, 0, none⟩)), (5, .pointer (some ⟨b2, 0, none⟩)), (29, .bool false)] (by kernel_rfl) rfl ?_
 refine VL_end (by kernel_rfl) ?_
 refine VQ_next ?_
 refine VC_false (by kernel_rfl) ?_
 refine VC_skip ?_
 refine VQ_next ?_
 refine VC_seq ?_
 refine VC_region ?_
 refine VL_pure 1 [0, 4, 5, 30] [(0, .pointer (some ⟨nd, 0, none⟩)), (4, .pointer (some ⟨b1, 0, none⟩)), (5, .pointer (some ⟨b2, 0, none⟩)), (30, .pointer (some ⟨nd, 0, none⟩))] (by kernel_rfl) rfl ?_
 refine VL_load (d := 31) (t := 30) (a := ⟨b1, 0, none⟩) (v := .agg #[.int .i64 ((ip : Nat) : Int), .int .i64 kv, .int .i64 kc]) (by kernel_rfl) (by kernel_rfl) (Loads.ownL ho1 (n := 3) (by kernel_rfl) (by kernel_rfl) (by kernel_rfl)) ?_
 refine VL_call (d := 32) (f := 32) (args := #[.pointer (some ⟨nd, 0, none⟩), .agg #[.int .i64 ((ip : Nat) : Int), .int .i64 kv, .int .i64 kc]]) (by kernel_rfl) (by kernel_rfl) (by kernel_rfl) Tryz.call32 ((dat_any _ _ _ _ _ _ _ _ _ (ip : Nat) kv kc _ ho hcn hhi hv hm).mono (fun x w1 h9 => by rw [hat] at h9; exact h9)) ?_
 rintro _ w12 ⟨rfl, hc3⟩
 replace hS := Step.trans hS hc3
 replace ho := ho.no hc3
 replace hv := hv.step hc3 (fun k hk1 hk2 hF => hF)
 replace hhi := Nat.le_trans hhi (hc3).size
 replace hrw := hrw.no hc3
 replace hrh := Nat.le_trans hrh (hc3).size
 replace ho1 := ho1.no hc3
 replace ho2 := ho2.no hc3
 refine VL_pure 4 [0, 4, 5, 7] [(0, .pointer (some ⟨nd, 0, none⟩)), (4, .pointer (some ⟨b1, 0, none⟩)), (5, .pointer (some ⟨b2, 0, none⟩)), (7, .int .i64 ((i : Nat) : Int))] (by kernel_rfl) rfl ?_
 refine VL_end (by kernel_rfl) ?_
 refine VQ_next ?_
 refine VC_seq ?_
 refine VC_seq ?_
 refine VC_region ?_
 refine VL_pure 2 [0, 4, 5, 7, 34] [(0, .pointer (some ⟨nd, 0, none⟩)), (4, .pointer (some ⟨b1, 0, none⟩)), (5, .pointer (some ⟨b2, 0, none⟩)), (7, .int .i64 ((i : Nat) : Int)), (34, .bool (decide (((i : Nat) : Int) < 0)))] (by kernel_rfl) rfl ?_
 refine VL_end (by kernel_rfl) ?_
 refine VQ_next ?_
 refine VC_is (b := decide (((i : Nat) : Int) < 0)) false (by kernel_rfl) (decide_eq_false (by omega)) ?_
 refine VC_ite_false ?_
 refine VC_skip ?_
 refine VQ_next ?_
 refine VC_seq ?_
 refine VC_seq ?_
 obtain ⟨sb1, so1, rfl, hlbsb1⟩ := hrw.open (by rw [iL_length]; omega)
 refine VC_det [[], [0], [], [2], [2, 3], [2, 3, 4], [], [6], [2, 3, 4, 5, 6, 7], [2, 3, 4, 5, 6, 7, 8], [], [], [11], [], [0, 1, 10, 11, 12, 13], [0, 1, 2, 3, 4, 5, 6, 7, 8, 9, 10, 11, 12, 13, 14], [0, 1, 2, 3, 4, 5, 6, 7, 8, 9, 10, 11, 12, 13, 14, 15]] 15 [.agg #[.int .i64 k.kind, .int .i64 k.peak, .int .i64 k.early, .int .i64 k.whole, .int .i64 k.burst, .int .i64 k.least], .int .i64 (needC k), .pointer (some ⟨nd, 0, none⟩), .pointer (some ⟨nd, 0, none⟩), .pointer (some ⟨nd, 0, none⟩), .slice (some ⟨sb1, so1, none⟩) rooms.length rc, .pointer (some ⟨b1, 0, none⟩), .int .i64 ((ip : Nat) : Int), .pointer (some ⟨sb1, so1 + ip, none⟩), .int .i64 (rooms.getD ip 0), .pointer (some ⟨nd, 0, none⟩), .pointer (some ⟨b1, 0, none⟩), .int .i64 ((ip : Nat) : Int), .agg #[.int .i64 ((ip : Nat) : Int), .int .i64 kv, .int .i64 kc], .int .i64 (usdL (delC (l.map Dx.x) ((ip : Nat) : Int) kv kc) ((ip : Nat) : Int))] [2, 3, 4, 6, 10, 11] [0, 1, 5, 7, 8, 9, 12, 13, 14] (by kernel_rfl) (by kernel_rfl) (by kernel_rfl) (by kernel_rfl) ?_ ?_
 ·intro w13 hs4
  replace ho := ho.no hs4
  replace hv := hv.step hs4 (fun k hk1 hk2 hF => hF)
  replace hhi := Nat.le_trans hhi (hs4).size
  replace hrw := hrw.no hs4
  replace hrh := Nat.le_trans hrh (hs4).size
  replace ho1 := ho1.no hs4
  replace ho2 := ho2.no hs4
  exact ⟨Det1_load (d := 35) (t := 32) (a := ⟨b2, 0, none⟩) (by kernel_rfl) (by kernel_rfl) (Loads.ownL ho2 (n := 6) (by kernel_rfl) (by kernel_rfl) (by kernel_rfl)), Det1_call (d := 36) (f := 33) (args := #[.agg #[.int .i64 k.kind, .int .i64 k.peak, .int .i64 k.early, .int .i64 k.whole, .int .i64 k.burst, .int .i64 k.least]]) (by kernel_rfl) (by kernel_rfl) (by kernel_rfl) Tryz.call33 (by exact dneed_any k _), Det1_load (d := 40) (t := 22) (a := ⟨nd, 0, none⟩) (by kernel_rfl) (by kernel_rfl) (Loads.own1 ho (by kernel_rfl) (by rfl)), Det1_load (d := 42) (t := 3) (a := ⟨b1, 0, none⟩) (by kernel_rfl) (by kernel_rfl) (Loads.own1 ho1 (by kernel_rfl) (by rfl)), Det1_index (d := 43) (b := sb1) (o := so1) (len := rooms.length) (sz := 1) (m := ((ip : Nat) : Int)) (by kernel_rfl) (by kernel_rfl) ip (by rfl) (by omega) (so1 + ip) (by omega), Det1_load (d := 44) (t := 3) (a := ⟨sb1, so1 + ip, none⟩) (by kernel_rfl) (by kernel_rfl) (Sl.ldI hrw (by kernel_rfl) ip (by (try simp only [List.length_set, List.length_append, List.length_map, List.length_replicate, List.length_cons, List.length_nil, List.length_take, List.length_drop, List.length_range]) <;> omega)), Det1_load (d := 47) (t := 3) (a := ⟨b1, 0, none⟩) (by kernel_rfl) (by kernel_rfl) (Loads.own1 ho1 (by kernel_rfl) (by rfl)), Det1_load (d := 48) (t := 30) (a := ⟨b1, 0, none⟩) (by kernel_rfl) (by kernel_rfl) (Loads.ownL ho1 (n := 3) (by kernel_rfl) (by kernel_rfl) (by kernel_rfl)), Det1_call (d := 49) (f := 41) (args := #[.pointer (some ⟨nd, 0, none⟩), .int .i64 ((ip : Nat) : Int), .agg #[.int .i64 ((ip : Nat) : Int), .int .i64 kv, .int .i64 kc]]) (by kernel_rfl) (by kernel_rfl) (by kernel_rfl) Tryz.call41 TDadac, trivial⟩
 intro w13 hs4
 replace hS := Step.trans hS hs4
 refine VL_keep [0, 4, 5, 7, 36, 44, 49] [(0, .pointer (some ⟨nd, 0, none⟩)), (4, .pointer (some ⟨b1, 0, none⟩)), (5, .pointer (some ⟨b2, 0, none⟩)), (7, .int .i64 ((i : Nat) : Int)), (36, .int .i64 (needC k)), (44, .int .i64 (rooms.getD ip 0)), (49, .int .i64 (usdL (delC (l.map Dx.x) ((ip : Nat) : Int) kv kc) ((ip : Nat) : Int)))] (by kernel_rfl) ?_
 refine VL_pure 16 [0, 4, 5, 7, 36, 50] [(0, .pointer (some ⟨nd, 0, none⟩)), (4, .pointer (some ⟨b1, 0, none⟩)), (5, .pointer (some ⟨b2, 0, none⟩)), (7, .int .i64 ((i : Nat) : Int)), (36, .int .i64 (needC k)), (50, .int .i64 (IntKind.wrap .i64 ((rooms.getD ip 0) - (usdL (delC (l.map Dx.x) ((ip : Nat) : Int) kv kc) ((ip : Nat) : Int)))))] (by kernel_rfl) rfl ?_
 refine VL_eq [(0, .pointer (some ⟨nd, 0, none⟩)), (4, .pointer (some ⟨b1, 0, none⟩)), (5, .pointer (some ⟨b2, 0, none⟩)), (7, .int .i64 ((i : Nat) : Int)), (36, .int .i64 (needC k)), (50, .int .i64 (leftN rooms (l.map Dx.x) (ip : Nat) + needC y.x.k))] (by rw [dchg_eq hli hp hy hky hfy]) ?_
 refine VL_pure 17 [0, 4, 5, 7, 51] [(0, .pointer (some ⟨nd, 0, none⟩)), (4, .pointer (some ⟨b1, 0, none⟩)), (5, .pointer (some ⟨b2, 0, none⟩)), (7, .int .i64 ((i : Nat) : Int)), (51, .bool (decide ((needC k) > (leftN rooms (l.map Dx.x) (ip : Nat) + needC y.x.k))))] (by kernel_rfl) rfl ?_
 refine VL_end (by kernel_rfl) ?_
 refine VQ_next ?_
 refine VC_is (b := decide ((needC k) > (leftN rooms (l.map Dx.x) (ip : Nat) + needC y.x.k))) true (by kernel_rfl) (decide_eq_true (by omega)) ?_
 refine VC_ite_true ?_
 refine VC_seq ?_
 refine VC_region ?_
 refine VL_pure 1 [6] [(6, .int .i64 37)] (by kernel_rfl) rfl ?_
 refine VL_end (by kernel_rfl) ?_
 refine VQ_next ?_
 refine VC_ret ?_
 refine VQ_then_ret ?_
 refine VQ_ret1 (.int .i64 37) (.inr rfl) rfl rfl ?_
 exact ⟨rfl, hS⟩

theorem dchange_yes (nd lo hi : Nat) (rooms : List Int) (l : List Dx) (rA : Option Addr) (rc : Nat) (A : Option Addr) (ca : Nat) (ip : Nat) (kv kc : Int) (w : World) (ho : Own w nd #[.slice rA rooms.length rc, .slice A l.length ca] 55) (hcn : l.length ≤ ca) (hhi : hi ≤ w.heap.size) (hv : Sl2 w lo hi A (flat dxc l)) (hnw : nd < lo ∨ hi ≤ nd) (hm : l.length ≤ 64) (rl rh : Nat) (k : Con) (hrc : rooms.length ≤ rc) (hrh : rh ≤ w.heap.size) (hrw : Sl w rh rA (iL .i64 rooms)) (hli : LI rooms (l.map Dx.x)) (hrr : rightB (ip : Nat) kv kc = true) (hc : ¬ kc < 32) (hp : ip < rooms.length) (hk : rightC k = 0) (i : Nat) (y : Dx) (hat : atD l (ip : Nat) kv kc = (i : Nat)) (hy : l[i]? = some y) (hky : keyX (ip : Nat) kv kc y.x = true) (hfy : findC (l.map Dx.x) (ip : Nat) kv kc = some y.x) (hle : ¬ needC k > leftN rooms (l.map Dx.x) (ip : Nat) + needC y.x.k) :
  CV Tryz.prog 13 #[.pointer (some ⟨nd, 0, none⟩), .agg #[.int .i64 ((ip : Nat) : Int), .int .i64 kv, .int .i64 kc], .agg #[.int .i64 k.kind, .int .i64 k.peak, .int .i64 k.early, .int .i64 k.whole, .int .i64 k.burst, .int .i64 k.least]] w (fun x w1 => x = .int .i64 0 ∧ ∃ A2 c2 pn Yn, Own w1 nd #[.slice rA rooms.length rc, .slice A2 l.length c2] 55 ∧ RwS w1 10 w.heap.size 67 A2 l.length c2 (flat dxc (l.set i (⟨⟨(ip : Nat), kv, kc, k, rulesC k⟩, pn, Yn⟩ : Dx))) ∧ DPl w1 pn Yn k (rulesC k) ∧ (∀ q, Yn q → w.heap.size ≤ q) ∧ Step (Just nd) w w1) := by
 have hS : Step (Just nd) w w := Step.refl _ _
 have hrm := hli.rm
 have hiL := (List.getElem?_eq_some_iff.1 hy).1
 refine CV_enter Tryz.f13 _ 70 [(0, .pointer (some ⟨nd, 0, none⟩)), (1, .agg #[.int .i64 ((ip : Nat) : Int), .int .i64 kv, .int .i64 kc]), (2, .agg #[.int .i64 k.kind, .int .i64 k.peak, .int .i64 k.early, .int .i64 k.whole, .int .i64 k.burst, .int .i64 k.least])] Tryz.func13 rfl rfl (by kernel_rfl) rfl ?_
 refine VC_seq ?_
 refine VC_region ?_
 have hzl1 := ho.lt
 refine VL_box (d := 4) (t := 30) (c := #[.int .i64 ((ip : Nat) : Int), .int .i64 kv, .int .i64 kc]) (by kernel_rfl) (by kernel_rfl) ?_
 intro b1 w1 hn1
 replace hS := Step.trans hS (Step.weak (hn1.step No))
 replace ho := ho.no (hn1.step No)
 replace hv := hv.step (hn1.step No) (fun k hk1 hk2 hF => hF)
 replace hhi := Nat.le_trans hhi (hn1.step No).size
 replace hrw := hrw.no (hn1.step No)
 replace hrh := Nat.le_trans hrh (hn1.step No).size
 have ho1 := hn1.own
 have hzhn1 := hn1.size
 have hqhn1 := hn1.eqb
 refine VL_box (d := 5) (t := 32) (c := #[.int .i64 k.kind, .int .i64 k.peak, .int .i64 k.early, .int .i64 k.whole, .int .i64 k.burst, .int .i64 k.least]) (by kernel_rfl) (by kernel_rfl) ?_
 intro b2 w2 hn2
 replace hS := Step.trans hS (Step.weak (hn2.step No))
 replace ho := ho.no (hn2.step No)
 replace hv := hv.step (hn2.step No) (fun k hk1 hk2 hF => hF)
 replace hhi := Nat.le_trans hhi (hn2.step No).size
 replace hrw := hrw.no (hn2.step No)
 replace hrh := Nat.le_trans hrh (hn2.step No).size
 replace ho1 := ho1.no (hn2.step No)
 have ho2 := hn2.own
 have hzhn2 := hn2.size
 have hqhn2 := hn2.eqb
 refine VL_pure 3 [0, 4, 5] [(0, .pointer (some ⟨nd, 0, none⟩)), (4, .pointer (some ⟨b1, 0, none⟩)), (5, .pointer (some ⟨b2, 0, none⟩))] (by kernel_rfl) rfl ?_
 refine VL_end (by kernel_rfl) ?_
 refine VQ_next ?_
 refine VC_seq ?_
 refine VC_seq ?_
 have hs1 := drew_step w2
 have hs1z : w2.heap.size = w2.drew.heap.size := rfl
 refine VC_text [[], [0], [0, 1], [0, 1, 2], [0, 1, 2, 3], [0, 1, 2, 3, 4], [0, 1, 2, 3, 4, 5], [0, 1, 2, 3, 4, 5, 6], [0, 1, 2, 3, 4, 5, 6, 7], [0, 1, 2, 3, 4, 5, 6, 7, 8], [0, 1, 2, 3, 4, 5, 6, 7, 8, 9], [0, 1, 2, 3, 4, 5, 6, 7, 8], [0, 1, 2, 3, 4, 5, 6, 7, 8, 11], [0, 1, 2, 3, 4, 5, 6, 7, 8, 11, 12], [0, 1, 2, 3, 4, 5, 6, 7, 8, 11, 12, 13], [0, 1, 2, 3, 4, 5, 6, 7, 8, 11, 12, 13, 14], [0, 1, 2, 3, 4, 5, 6, 7, 8, 9, 10, 11, 12, 13, 14, 15], [0, 1, 2, 3, 4, 5, 6, 7, 8, 9, 10, 11, 12, 13, 14, 15, 16]] 16 (fun x y => Step (fun k => w2.heap.size ≤ k) x y) [1] [0, 1, 2, 3, 4, 5, 6, 7, 8, 9, 10, 11, 12, 13, 14, 15] (by kernel_rfl) (by kernel_rfl) (by kernel_rfl) (by kernel_rfl) (fun x => Step.refl _ x) (fun h k => Step.trans h k) Step.weak ?_
 generalize w2.drew = w3 at hs1 hs1z ⊢
 replace hS := Step.trans hS (Step.weak hs1)
 replace ho := ho.no hs1
 replace hv := hv.step hs1 (fun k hk1 hk2 hF => hF)
 replace hhi := Nat.le_trans hhi (hs1).size
 replace hrw := hrw.no hs1
 replace hrh := Nat.le_trans hrh (hs1).size
 replace ho1 := ho1.no hs1
 replace ho2 := ho2.no hs1
 refine VT_load (d := 9) (t := 30) (a := ⟨b1, 0, none⟩) (v := .agg #[.int .i64 ((ip : Nat) : Int), .int .i64 kv, .int .i64 kc]) (by kernel_rfl) (by kernel_rfl) ?_ ?_
 ·intro w4 hr1
  replace ho1 := ho1.step hr1 (by (try simp only); omega)
  exact (Loads.ownL ho1 (n := 3) (by kernel_rfl) (by kernel_rfl) (by kernel_rfl))
 refine VT_chain (by kernel_rfl) ?_
 intro w5 hs2
 replace hS := Step.trans hS (Step.weak hs2)
 replace ho := ho.no hs2
 replace hv := hv.step hs2 (fun k hk1 hk2 hF => hF)
 replace hhi := Nat.le_trans hhi (hs2).size
 replace hrw := hrw.no hs2
 replace hrh := Nat.le_trans hrh (hs2).size
 replace ho1 := ho1.no hs2
 replace ho2 := ho2.no hs2
 refine VTc_call (d := 10) (f := 30) (args := #[.agg #[.int .i64 ((ip : Nat) : Int), .int .i64 kv, .int .i64 kc]]) (by kernel_rfl) (by kernel_rfl) (by kernel_rfl) Tryz.call30 (dkright_any ((ip : Nat) : Int) kv kc _) ?_ ?_
 ·rintro _ w6 ⟨rfl, hc1⟩
  exact Step.mono hc1 TDadaa
 rintro _ w6 ⟨rfl, hc1⟩
 replace hS := Step.trans hS (Step.weak hc1)
 replace ho := ho.no hc1
 replace hv := hv.step hc1 (fun k hk1 hk2 hF => hF)
 replace hhi := Nat.le_trans hhi (hc1).size
 replace hrw := hrw.no hc1
 replace hrh := Nat.le_trans hrh (hc1).size
 replace ho1 := ho1.no hc1
 replace ho2 := ho2.no hc1
 refine VT_pures 2 (kn' := [(3, .bool (!(rightB ((ip : Nat) : Int) kv kc))), (2, .bool (!(rightB ((ip : Nat) : Int) kv kc))), (1, .bool (rightB ((ip : Nat) : Int) kv kc)), (0, .agg #[.int .i64 ((ip : Nat) : Int), .int .i64 kv, .int .i64 kc])]) (by kernel_rfl) ?_
 have hg1 : (rightB ((ip : Nat) : Int) kv kc) = true := (by rw [hrr])
 refine VT_eq [(3, .bool false), (2, .bool false), (1, .bool true), (0, .agg #[.int .i64 ((ip : Nat) : Int), .int .i64 kv, .int .i64 kc])] TDadab ?_
 refine VT_pures 1 (kn' := [(4, .pointer (some ⟨b1, 2, none⟩)), (3, .bool false), (2, .bool false), (1, .bool true), (0, .agg #[.int .i64 ((ip : Nat) : Int), .int .i64 kv, .int .i64 kc])]) (by kernel_rfl) ?_
 refine VT_load (d := 14) (t := 3) (a := ⟨b1, 2, none⟩) (v := .int .i64 kc) (by kernel_rfl) (by kernel_rfl) ?_ ?_
 ·intro w7 hr2
  replace ho1 := ho1.step hr2 (by (try simp only); omega)
  exact (Loads.own1 ho1 (by kernel_rfl) (by rfl))
 refine VT_pures 3 (kn' := [(8, .bool (decide (kc < 32))), (7, .bool (decide (kc < 32))), (6, .bool (decide (kc < 32))), (5, .int .i64 kc), (4, .pointer (some ⟨b1, 2, none⟩)), (3, .bool false), (2, .bool false), (1, .bool true), (0, .agg #[.int .i64 ((ip : Nat) : Int), .int .i64 kv, .int .i64 kc])]) (by kernel_rfl) ?_
 have hg2 : (decide (kc < 32)) = false := (decide_eq_false (by omega))
 refine VT_eq [(8, .bool false), (7, .bool false), (6, .bool false), (5, .int .i64 kc), (4, .pointer (some ⟨b1, 2, none⟩)), (3, .bool false), (2, .bool false), (1, .bool true), (0, .agg #[.int .i64 ((ip : Nat) : Int), .int .i64 kv, .int .i64 kc])] TDadad ?_
 refine VT_pures 1 (kn' := [(9, .pointer (some ⟨b1, 0, none⟩)), (8, .bool false), (7, .bool false), (6, .bool false), (5, .int .i64 kc), (4, .pointer (some ⟨b1, 2, none⟩)), (3, .bool false), (2, .bool false), (1, .bool true), (0, .agg #[.int .i64 ((ip : Nat) : Int), .int .i64 kv, .int .i64 kc])]) (by kernel_rfl) ?_
 refine VT_load (d := 19) (t := 3) (a := ⟨b1, 0, none⟩) (v := .int .i64 ((ip : Nat) : Int)) (by kernel_rfl) (by kernel_rfl) ?_ ?_
 ·intro w8 hr3
  replace ho1 := ho1.step hr3 (by (try simp only); omega)
  exact (Loads.own1 ho1 (by kernel_rfl) (by rfl))
 refine VT_pures 3 (kn' := [(13, .pointer (some ⟨nd, 0, none⟩)), (12, .pointer (some ⟨nd, 0, none⟩)), (11, .pointer (some ⟨nd, 0, none⟩)), (10, .int .i64 ((ip : Nat) : Int)), (9, .pointer (some ⟨b1, 0, none⟩)), (8, .bool false), (7, .bool false), (6, .bool false), (5, .int .i64 kc), (4, .pointer (some ⟨b1, 2, none⟩)), (3, .bool false), (2, .bool false), (1, .bool true), (0, .agg #[.int .i64 ((ip : Nat) : Int), .int .i64 kv, .int .i64 kc])]) (by kernel_rfl) ?_
 refine VT_load (d := 23) (t := 22) (a := ⟨nd, 0, none⟩) (v := .slice rA rooms.length rc) (by kernel_rfl) (by kernel_rfl) ?_ ?_
 ·intro w9 hr4
  replace ho := ho.step hr4 (by (try simp only); omega)
  exact (Loads.own1 ho (by kernel_rfl) (by rfl))
 refine VT_pures 1 (kn' := [(15, .int .i64 ((rooms.length : Nat) : Int)), (14, .slice rA rooms.length rc), (13, .pointer (some ⟨nd, 0, none⟩)), (12, .pointer (some ⟨nd, 0, none⟩)), (11, .pointer (some ⟨nd, 0, none⟩)), (10, .int .i64 ((ip : Nat) : Int)), (9, .pointer (some ⟨b1, 0, none⟩)), (8, .bool false), (7, .bool false), (6, .bool false), (5, .int .i64 kc), (4, .pointer (some ⟨b1, 2, none⟩)), (3, .bool false), (2, .bool false), (1, .bool true), (0, .agg #[.int .i64 ((ip : Nat) : Int), .int .i64 kv, .int .i64 kc])]) (by kernel_rfl) ?_
 refine VT_end ?_
 intro w10 hs3
 replace hS := Step.trans hS (Step.weak hs3)
 replace ho := ho.no hs3
 replace hv := hv.step hs3 (fun k hk1 hk2 hF => hF)
 replace hhi := Nat.le_trans hhi (hs3).size
 replace hrw := hrw.no hs3
 replace hrh := Nat.le_trans hrh (hs3).size
 replace ho1 := ho1.no hs3
 replace ho2 := ho2.no hs3
 refine VL_keep [0, 4, 5, 17, 19, 24] [(0, .pointer (some ⟨nd, 0, none⟩)), (4, .pointer (some ⟨b1, 0, none⟩)), (5, .pointer (some ⟨b2, 0, none⟩)), (17, .bool false), (19, .int .i64 ((ip : Nat) : Int)), (24, .int .i64 ((rooms.length : Nat) : Int))] (by kernel_rfl) ?_
 refine VL_pure 18 [0, 4, 5, 26] [(0, .pointer (some ⟨nd, 0, none⟩)), (4, .pointer (some ⟨b1, 0, none⟩)), (5, .pointer (some ⟨b2, 0, none⟩)), (26, .bool (decide (((ip : Nat) : Int) ≥ ((rooms.length : Nat) : Int))))] (by kernel_rfl) rfl ?_
 refine VL_end (by kernel_rfl) ?_
 refine VQ_next ?_
 refine VC_is (b := decide (((ip : Nat) : Int) ≥ ((rooms.length : Nat) : Int))) false (by kernel_rfl) (decide_eq_false (by omega)) ?_
 refine VC_ite_false ?_
 refine VC_skip ?_
 refine VQ_next ?_
 refine VC_seq ?_
 refine VC_seq ?_
 refine VC_region ?_
 refine VL_load (d := 27) (t := 32) (a := ⟨b2, 0, none⟩) (v := .agg #[.int .i64 k.kind, .int .i64 k.peak, .int .i64 k.early, .int .i64 k.whole, .int .i64 k.burst, .int .i64 k.least]) (by kernel_rfl) (by kernel_rfl) (Loads.ownL ho2 (n := 6) (by kernel_rfl) (by kernel_rfl) (by kernel_rfl)) ?_
 refine VL_call (d := 28) (f := 31) (args := #[.agg #[.int .i64 k.kind, .int .i64 k.peak, .int .i64 k.early, .int .i64 k.whole, .int .i64 k.burst, .int .i64 k.least]]) (by kernel_rfl) (by kernel_rfl) (by kernel_rfl) Tryz.call31 ((dright_any k _).mono (fun x w1 h9 => ⟨h9.1.trans (by rw [hk]), h9.2⟩ : ∀ x w1, _ → x = .int .i64 0 ∧ Step No _ w1)) ?_
 rintro _ w11 ⟨rfl, hc2⟩
 replace hS := Step.trans hS (Step.weak hc2)
 replace ho := ho.no hc2
 replace hv := hv.step hc2 (fun k hk1 hk2 hF => hF)
 replace hhi := Nat.le_trans hhi (hc2).size
 replace hrw := hrw.no hc2
 replace hrh := Nat.le_trans hrh (hc2).size
 replace ho1 := ho1.no hc2
 replace ho2 := ho2.no hc2
 refine VL_pure 3 [0, 4, 5, 29] [(0, .pointer (some ⟨nd, 0, none⟩)), (4, .pointer (some ⟨b1, 0, none⟩)), (5, .pointer (some ⟨b2, 0, none⟩)), (29, .bool false)] (by kernel_rfl) rfl ?_
 refine VL_end (by kernel_rfl) ?_
 refine VQ_next ?_
 refine VC_false (by kernel_rfl) ?_
 refine VC_skip ?_
 refine VQ_next ?_
 refine VC_seq ?_
 refine VC_region ?_
 refine VL_pure 1 [0, 4, 5, 30] [(0, .pointer (some ⟨nd, 0, none⟩)), (4, .pointer (some ⟨b1, 0, none⟩)), (5, .pointer (some ⟨b2, 0, none⟩)), (30, .pointer (some ⟨nd, 0, none⟩))] (by kernel_rfl) rfl ?_
 refine VL_load (d := 31) (t := 30) (a := ⟨b1, 0, none⟩) (v := .agg #[.int .i64 ((ip : Nat) : Int), .int .i64 kv, .int .i64 kc]) (by kernel_rfl) (by kernel_rfl) (Loads.ownL ho1 (n := 3) (by kernel_rfl) (by kernel_rfl) (by kernel_rfl)) ?_
 refine VL_call (d := 32) (f := 32) (args := #[.pointer (some ⟨nd, 0, none⟩), .agg #[.int .i64 ((ip : Nat) : Int), .int .i64 kv, .int .i64 kc]]) (by kernel_rfl) (by kernel_rfl) (by kernel_rfl) Tryz.call32 ((dat_any _ _ _ _ _ _ _ _ _ (ip : Nat) kv kc _ ho hcn hhi hv hm).mono (fun x w1 h9 => by rw [hat] at h9; exact h9)) ?_
 rintro _ w12 ⟨rfl, hc3⟩
 replace hS := Step.trans hS (Step.weak hc3)
 replace ho := ho.no hc3
 replace hv := hv.step hc3 (fun k hk1 hk2 hF => hF)
 replace hhi := Nat.le_trans hhi (hc3).size
 replace hrw := hrw.no hc3
 replace hrh := Nat.le_trans hrh (hc3).size
 replace ho1 := ho1.no hc3
 replace ho2 := ho2.no hc3
 refine VL_pure 4 [0, 4, 5, 7] [(0, .pointer (some ⟨nd, 0, none⟩)), (4, .pointer (some ⟨b1, 0, none⟩)), (5, .pointer (some ⟨b2, 0, none⟩)), (7, .int .i64 ((i : Nat) : Int))] (by kernel_rfl) rfl ?_
 refine VL_end (by kernel_rfl) ?_
 refine VQ_next ?_
 refine VC_seq ?_
 refine VC_seq ?_
 refine VC_region ?_
 refine VL_pure 2 [0, 4, 5, 7, 34] [(0, .pointer (some ⟨nd, 0, none⟩)), (4, .pointer (some ⟨b1, 0, none⟩)), (5, .pointer (some ⟨b2, 0, none⟩)), (7, .int .i64 ((i : Nat) : Int)), (34, .bool (decide (((i : Nat) : Int) < 0)))] (by kernel_rfl) rfl ?_
 refine VL_end (by kernel_rfl) ?_
 refine VQ_next ?_
 refine VC_is (b := decide (((i : Nat) : Int) < 0)) false (by kernel_rfl) (decide_eq_false (by omega)) ?_
 refine VC_ite_false ?_
 refine VC_skip ?_
 refine VQ_next ?_
 refine VC_seq ?_
 refine VC_seq ?_
 obtain ⟨sb1, so1, rfl, hlbsb1⟩ := hrw.open (by rw [iL_length]; omega)
 refine VC_det [[], [0], [], [2], [2, 3], [2, 3, 4], [], [6], [2, 3, 4, 5, 6, 7], [2, 3, 4, 5, 6, 7, 8], [], [], [11], [], [0, 1, 10, 11, 12, 13], [0, 1, 2, 3, 4, 5, 6, 7, 8, 9, 10, 11, 12, 13, 14], [0, 1, 2, 3, 4, 5, 6, 7, 8, 9, 10, 11, 12, 13, 14, 15]] 15 [.agg #[.int .i64 k.kind, .int .i64 k.peak, .int .i64 k.early, .int .i64 k.whole, .int .i64 k.burst, .int .i64 k.least], .int .i64 (needC k), .pointer (some ⟨nd, 0, none⟩), .pointer (some ⟨nd, 0, none⟩), .pointer (some ⟨nd, 0, none⟩), .slice (some ⟨sb1, so1, none⟩) rooms.length rc, .pointer (some ⟨b1, 0, none⟩), .int .i64 ((ip : Nat) : Int), .pointer (some ⟨sb1, so1 + ip, none⟩), .int .i64 (rooms.getD ip 0), .pointer (some ⟨nd, 0, none⟩), .pointer (some ⟨b1, 0, none⟩), .int .i64 ((ip : Nat) : Int), .agg #[.int .i64 ((ip : Nat) : Int), .int .i64 kv, .int .i64 kc], .int .i64 (usdL (delC (l.map Dx.x) ((ip : Nat) : Int) kv kc) ((ip : Nat) : Int))] [2, 3, 4, 6, 10, 11] [0, 1, 5, 7, 8, 9, 12, 13, 14] (by kernel_rfl) (by kernel_rfl) (by kernel_rfl) (by kernel_rfl) ?_ ?_
 ·intro w13 hs4
  replace ho := ho.no hs4
  replace hv := hv.step hs4 (fun k hk1 hk2 hF => hF)
  replace hhi := Nat.le_trans hhi (hs4).size
  replace hrw := hrw.no hs4
  replace hrh := Nat.le_trans hrh (hs4).size
  replace ho1 := ho1.no hs4
  replace ho2 := ho2.no hs4
  exact ⟨Det1_load (d := 35) (t := 32) (a := ⟨b2, 0, none⟩) (by kernel_rfl) (by kernel_rfl) (Loads.ownL ho2 (n := 6) (by kernel_rfl) (by kernel_rfl) (by kernel_rfl)), Det1_call (d := 36) (f := 33) (args := #[.agg #[.int .i64 k.kind, .int .i64 k.peak, .int .i64 k.early, .int .i64 k.whole, .int .i64 k.burst, .int .i64 k.least]]) (by kernel_rfl) (by kernel_rfl) (by kernel_rfl) Tryz.call33 (by exact dneed_any k _), Det1_load (d := 40) (t := 22) (a := ⟨nd, 0, none⟩) (by kernel_rfl) (by kernel_rfl) (Loads.own1 ho (by kernel_rfl) (by rfl)), Det1_load (d := 42) (t := 3) (a := ⟨b1, 0, none⟩) (by kernel_rfl) (by kernel_rfl) (Loads.own1 ho1 (by kernel_rfl) (by rfl)), Det1_index (d := 43) (b := sb1) (o := so1) (len := rooms.length) (sz := 1) (m := ((ip : Nat) : Int)) (by kernel_rfl) (by kernel_rfl) ip (by rfl) (by omega) (so1 + ip) (by omega), Det1_load (d := 44) (t := 3) (a := ⟨sb1, so1 + ip, none⟩) (by kernel_rfl) (by kernel_rfl) (Sl.ldI hrw (by kernel_rfl) ip (by (try simp only [List.length_set, List.length_append, List.length_map, List.length_replicate, List.length_cons, List.length_nil, List.length_take, List.length_drop, List.length_range]) <;> omega)), Det1_load (d := 47) (t := 3) (a := ⟨b1, 0, none⟩) (by kernel_rfl) (by kernel_rfl) (Loads.own1 ho1 (by kernel_rfl) (by rfl)), Det1_load (d := 48) (t := 30) (a := ⟨b1, 0, none⟩) (by kernel_rfl) (by kernel_rfl) (Loads.ownL ho1 (n := 3) (by kernel_rfl) (by kernel_rfl) (by kernel_rfl)), Det1_call (d := 49) (f := 41) (args := #[.pointer (some ⟨nd, 0, none⟩), .int .i64 ((ip : Nat) : Int), .agg #[.int .i64 ((ip : Nat) : Int), .int .i64 kv, .int .i64 kc]]) (by kernel_rfl) (by kernel_rfl) (by kernel_rfl) Tryz.call41 TDadac, trivial⟩
 intro w13 hs4
 replace hS := Step.trans hS (Step.weak hs4)
 replace ho := ho.no hs4
 replace hv := hv.step hs4 (fun k hk1 hk2 hF => hF)
 replace hhi := Nat.le_trans hhi (hs4).size
 replace ho1 := ho1.no hs4
 replace ho2 := ho2.no hs4
 refine VL_keep [0, 4, 5, 7, 36, 44, 49] [(0, .pointer (some ⟨nd, 0, none⟩)), (4, .pointer (some ⟨b1, 0, none⟩)), (5, .pointer (some ⟨b2, 0, none⟩)), (7, .int .i64 ((i : Nat) : Int)), (36, .int .i64 (needC k)), (44, .int .i64 (rooms.getD ip 0)), (49, .int .i64 (usdL (delC (l.map Dx.x) ((ip : Nat) : Int) kv kc) ((ip : Nat) : Int)))] (by kernel_rfl) ?_
 refine VL_pure 16 [0, 4, 5, 7, 36, 50] [(0, .pointer (some ⟨nd, 0, none⟩)), (4, .pointer (some ⟨b1, 0, none⟩)), (5, .pointer (some ⟨b2, 0, none⟩)), (7, .int .i64 ((i : Nat) : Int)), (36, .int .i64 (needC k)), (50, .int .i64 (IntKind.wrap .i64 ((rooms.getD ip 0) - (usdL (delC (l.map Dx.x) ((ip : Nat) : Int) kv kc) ((ip : Nat) : Int)))))] (by kernel_rfl) rfl ?_
 refine VL_eq [(0, .pointer (some ⟨nd, 0, none⟩)), (4, .pointer (some ⟨b1, 0, none⟩)), (5, .pointer (some ⟨b2, 0, none⟩)), (7, .int .i64 ((i : Nat) : Int)), (36, .int .i64 (needC k)), (50, .int .i64 (leftN rooms (l.map Dx.x) (ip : Nat) + needC y.x.k))] (by rw [dchg_eq hli hp hy hky hfy]) ?_
 refine VL_pure 17 [0, 4, 5, 7, 51] [(0, .pointer (some ⟨nd, 0, none⟩)), (4, .pointer (some ⟨b1, 0, none⟩)), (5, .pointer (some ⟨b2, 0, none⟩)), (7, .int .i64 ((i : Nat) : Int)), (51, .bool (decide ((needC k) > (leftN rooms (l.map Dx.x) (ip : Nat) + needC y.x.k))))] (by kernel_rfl) rfl ?_
 refine VL_end (by kernel_rfl) ?_
 refine VQ_next ?_
 refine VC_is (b := decide ((needC k) > (leftN rooms (l.map Dx.x) (ip : Nat) + needC y.x.k))) false (by kernel_rfl) (decide_eq_false (by omega)) ?_
 refine VC_ite_false ?_
 refine VC_skip ?_
 refine VQ_next ?_
 refine VC_seq ?_
 refine VC_region ?_
 have hzl16 := ho.lt
 have hzl18 := ho2.lt
 refine VL_bs (d := 52) (e := 67) (c := #[]) (len := 0) (by kernel_rfl) (by kernel_rfl) ?_
 intro b3 w14 hn3
 replace hS := Step.trans hS (Step.weak (hn3.step No))
 replace ho := ho.no (hn3.step No)
 replace hv := hv.step (hn3.step No) (fun k hk1 hk2 hF => hF)
 replace hhi := Nat.le_trans hhi (hn3.step No).size
 replace ho1 := ho1.no (hn3.step No)
 replace ho2 := ho2.no (hn3.step No)
 have ho3 := hn3.own
 have hzhn3 := hn3.size
 have hqhn3 := hn3.eqb
 refine VL_pure 4 [0, 4, 5, 7, 52, 55] [(0, .pointer (some ⟨nd, 0, none⟩)), (4, .pointer (some ⟨b1, 0, none⟩)), (5, .pointer (some ⟨b2, 0, none⟩)), (7, .int .i64 ((i : Nat) : Int)), (52, .slice (some ⟨b3, 0, none⟩) 0 0), (55, .pointer (some ⟨nd, 1, none⟩))] (by kernel_rfl) rfl ?_
 refine VL_load (d := 56) (t := 53) (a := ⟨nd, 1, none⟩) (v := .slice A l.length ca) (by kernel_rfl) (by kernel_rfl) (Loads.own1 ho (by kernel_rfl) (by rfl)) ?_
 have hzk7 := hhi
 have hbase1 := Nat.le_of_lt ho3.lt
 have hrowhbase1 := RwS.of_new (n := 0) (sz := 10) (base := b3) ho3 (Nat.le_refl _) (by simp [maxLen]) (by rfl)
 refine VL_appendZ (d := 57) (e := 67) (A := (some ⟨b3, 0, none⟩)) (m := 0) (c := 0) (A2 := A) (m2 := l.length) (c2 := ca) (sz := 10) (bytes := 80) (by kernel_rfl) (by kernel_rfl) (by kernel_rfl) b3 w14.heap.size (flat dxc ([])) (flat dxc l) hrowhbase1 (by rw [flat_len dxc_len, show l.length = l.length from rfl]) (Sl.mono (Sl2.sl hv) (by first | exact Nat.le_refl _ | omega)) (flat_one' dxc_one _) l.length (by omega) (by simp only [maxLen]; omega) (by omega) (by omega) ?_
 intro A1 c1 w15 hr5 hg3
 replace hr5 : RwS w15 10 b3 67 A1 l.length c1 (flat dxc (l)) := RwS.cast hr5 rfl (by simp only [flat_append, flat_one, List.append_assoc, List.nil_append, List.append_nil, show flat dxc [] = [] from rfl])
 replace hg3 := Step.mono (G := fun k => k = b3) hg3 (fun i hi => by obtain ⟨a9, ha9, hi9⟩ := hi; cases ha9; exact hi9.symm)
 have hzhg3 := hg3.size
 replace hS := Step.transNew hS hg3 (fun i hi hG => by (try simp only at hG); (first | show _ ∨ _ | show _ = _); omega)
 replace ho := ho.step hg3 (by (try simp only); omega)
 replace ho1 := ho1.step hg3 (by (try simp only); omega)
 replace ho2 := ho2.step hg3 (by (try simp only); omega)
 have hlhr5 : (l).length = l.length := by have hq9 := RwS.len hr5; rw [flat_len dxc_len] at hq9 <;> omega
 refine VL_pure 7 [0, 4, 5, 7, 8] [(0, .pointer (some ⟨nd, 0, none⟩)), (4, .pointer (some ⟨b1, 0, none⟩)), (5, .pointer (some ⟨b2, 0, none⟩)), (7, .int .i64 ((i : Nat) : Int)), (8, .slice A1 l.length c1)] (by kernel_rfl) rfl ?_
 refine VL_end (by kernel_rfl) ?_
 refine VQ_next ?_
 refine VC_seq ?_
 obtain ⟨g1, cur1, rfl, hgbg1, hglg1, -⟩ := RwS.open hr5 (by omega)
 have hs5 := drew_step w15
 have hs5z : w15.heap.size = w15.drew.heap.size := rfl
 refine VC_text [[], [], [], [], [], [4], [2, 3, 4, 5], [0, 1, 2, 3, 4, 5, 6], [0, 1, 2, 3, 4, 5, 6, 7]] 7 (fun x y => Step (fun k => w15.heap.size ≤ k) x y) [5] [0, 1, 2, 3, 4, 5, 6] (by kernel_rfl) (by kernel_rfl) (by kernel_rfl) (by kernel_rfl) (fun x => Step.refl _ x) (fun h k => Step.trans h k) Step.weak ?_
 have hzl25 := ho2.lt
 have hzo6 := hglg1
 generalize w15.drew = w16 at hs5 hs5z ⊢
 replace hS := Step.trans hS (Step.weak hs5)
 replace ho := ho.no hs5
 replace ho1 := ho1.no hs5
 replace ho2 := ho2.no hs5
 replace hr5 := hr5.no hs5
 refine VT_pures 2 (kn' := [(1, .int .i64 ((i : Nat) : Int)), (0, .slice (some ⟨g1, 0, none⟩) l.length c1)]) (by kernel_rfl) ?_
 refine VT_load (d := 60) (t := 30) (a := ⟨b1, 0, none⟩) (v := .agg #[.int .i64 ((ip : Nat) : Int), .int .i64 kv, .int .i64 kc]) (by kernel_rfl) (by kernel_rfl) ?_ ?_
 ·intro w17 hr6
  replace ho1 := ho1.step hr6 (by (try simp only); omega)
  exact (Loads.ownL ho1 (n := 3) (by kernel_rfl) (by kernel_rfl) (by kernel_rfl))
 refine VT_load (d := 61) (t := 32) (a := ⟨b2, 0, none⟩) (v := .agg #[.int .i64 k.kind, .int .i64 k.peak, .int .i64 k.early, .int .i64 k.whole, .int .i64 k.burst, .int .i64 k.least]) (by kernel_rfl) (by kernel_rfl) ?_ ?_
 ·intro w18 hr7
  replace ho2 := ho2.step hr7 (by (try simp only); omega)
  exact (Loads.ownL ho2 (n := 6) (by kernel_rfl) (by kernel_rfl) (by kernel_rfl))
 refine VT_load (d := 62) (t := 32) (a := ⟨b2, 0, none⟩) (v := .agg #[.int .i64 k.kind, .int .i64 k.peak, .int .i64 k.early, .int .i64 k.whole, .int .i64 k.burst, .int .i64 k.least]) (by kernel_rfl) (by kernel_rfl) ?_ ?_
 ·intro w19 hr8
  replace ho2 := ho2.step hr8 (by (try simp only); omega)
  exact (Loads.ownL ho2 (n := 6) (by kernel_rfl) (by kernel_rfl) (by kernel_rfl))
 refine VT_chain (by kernel_rfl) ?_
 intro w20 hs6
 have hzhs6 := hs6.size
 replace hS := Step.trans hS (Step.weak hs6)
 replace ho := ho.no hs6
 replace hr5 := hr5.no hs6
 have hzl26 := ho.lt
 refine VTc_call (d := 63) (f := 39) (args := #[.agg #[.int .i64 k.kind, .int .i64 k.peak, .int .i64 k.early, .int .i64 k.whole, .int .i64 k.burst, .int .i64 k.least]]) (by kernel_rfl) (by kernel_rfl) (by kernel_rfl) Tryz.call39 (dpnew_any k hk _) ?_ ?_
 ·rintro _ w21 ⟨pn, Yn, rfl, hYn, hPn, hc4⟩
  exact Step.mono hc4 TDadaa
 rintro _ w21 ⟨pn, Yn, rfl, hYn, hPn, hc4⟩
 replace hS := Step.trans hS (Step.weak hc4)
 replace ho := ho.no hc4
 replace hr5 := hr5.no hc4
 refine VT_pures 1 (kn' := [(6, .agg #[.int .i64 ((ip : Nat) : Int), .int .i64 kv, .int .i64 kc, .int .i64 k.kind, .int .i64 k.peak, .int .i64 k.early, .int .i64 k.whole, .int .i64 k.burst, .int .i64 k.least, .pointer (some ⟨pn, 0, none⟩)]), (5, .pointer (some ⟨pn, 0, none⟩)), (4, .agg #[.int .i64 k.kind, .int .i64 k.peak, .int .i64 k.early, .int .i64 k.whole, .int .i64 k.burst, .int .i64 k.least]), (3, .agg #[.int .i64 k.kind, .int .i64 k.peak, .int .i64 k.early, .int .i64 k.whole, .int .i64 k.burst, .int .i64 k.least]), (2, .agg #[.int .i64 ((ip : Nat) : Int), .int .i64 kv, .int .i64 kc]), (1, .int .i64 ((i : Nat) : Int)), (0, .slice (some ⟨g1, 0, none⟩) l.length c1)]) (by kernel_rfl) ?_
 refine VT_end ?_
 intro w22 hs7
 replace hS := Step.trans hS (Step.weak hs7)
 replace ho := ho.no hs7
 replace hr5 := hr5.no hs7
 replace hPn := DPl.no hPn hs7
 refine VL_keep [0, 8, 58, 59, 64] [(0, .pointer (some ⟨nd, 0, none⟩)), (8, .slice (some ⟨g1, 0, none⟩) l.length c1), (58, .slice (some ⟨g1, 0, none⟩) l.length c1), (59, .int .i64 ((i : Nat) : Int)), (64, .agg #[.int .i64 ((ip : Nat) : Int), .int .i64 kv, .int .i64 kc, .int .i64 k.kind, .int .i64 k.peak, .int .i64 k.early, .int .i64 k.whole, .int .i64 k.burst, .int .i64 k.least, .pointer (some ⟨pn, 0, none⟩)])] (by kernel_rfl) ?_
 refine VL_index (d := 65) (b := g1) (o := 0) (len := l.length) (sz := 10) (m := ((i : Nat) : Int)) (by kernel_rfl) (by kernel_rfl) i (by rfl) (by omega) (i * 10) (by omega) ?_
 obtain ⟨cur2, hgbcur2, hglcur2, howcur2, hcscur2, hcncur2, hcmcur2, hctcur2⟩ := RwS.openG hr5
 refine VL_store (b := g1) (o := (i * 10)) (vs := [.int .i64 ((ip : Nat) : Int), .int .i64 kv, .int .i64 kc, .int .i64 k.kind, .int .i64 k.peak, .int .i64 k.early, .int .i64 k.whole, .int .i64 k.burst, .int .i64 k.least, .pointer (some ⟨pn, 0, none⟩)]) (by kernel_rfl) (by kernel_rfl) howcur2 (by simp only [List.length_cons, List.length_nil]; omega) ?_
 intro w23 hw1
 replace hS := Step.transNew hS hw1.step (fun _ _ _ => by omega)
 replace ho := ho.step hw1.step (show ¬ nd = g1 by omega)
 replace hPn := DPl.step hPn hw1.step (fun q9 hq9 hF9 => by have h8 := hYn q9 hq9; have h7 : q9 = g1 := hF9; omega)
 have ho4 := RwS.putF (y := (⟨⟨((ip : Nat) : Int), kv, kc, k, rulesC k⟩, pn, Yn⟩ : Dx)) dxc_len (by decide) hctcur2 hlhr5 hw1 hgbcur2 hcscur2 hcncur2 hcmcur2 (j := i) (by omega)
 refine VL_end (by kernel_rfl) ?_
 refine VQ_next ?_
 refine VC_seq ?_
 refine VC_region ?_
 refine VL_pure 4 [67, 69] [(67, .slice (some ⟨g1, 0, none⟩) l.length c1), (69, .pointer (some ⟨nd, 1, none⟩))] (by kernel_rfl) rfl ?_
 refine VL_store (b := nd) (o := 1) (vs := [.slice (some ⟨g1, 0, none⟩) l.length c1]) (by kernel_rfl) (by kernel_rfl) ho (Nat.le_of_ble_eq_true (by kernel_rfl)) ?_
 intro w24 hw2
 replace hS := Step.trans hS (Step.mono hw2.step (by intro i hi; first | exact hi | exact ⟨_, by assumption, hi⟩ | (have hi9 : i = nd := hi; (first | show _ ∨ _ | show _ = _); omega)))
 replace hPn := DPl.step hPn hw2.step (fun q9 hq9 hF9 => by have h8 := hYn q9 hq9; have h7 : q9 = nd := hF9; omega)
 replace ho4 := ho4.keepG hw2.step (show ¬ g1 = nd by omega)
 have ho5 : Own w24 nd #[.slice (some ⟨sb1, so1, none⟩) rooms.length rc, .slice (some ⟨g1, 0, none⟩) l.length c1] 55 := Own.cast hw2.own (by kernel_rfl)
 refine VL_end (by kernel_rfl) ?_
 refine VQ_next ?_
 refine VC_seq ?_
 refine VC_region ?_
 refine VL_pure 1 [6] [(6, .int .i64 0)] (by kernel_rfl) rfl ?_
 refine VL_end (by kernel_rfl) ?_
 refine VQ_next ?_
 refine VC_ret ?_
 refine VQ_ret1 (.int .i64 0) (.inr rfl) rfl rfl ?_
 obtain ⟨A9, c9, q1, q2⟩ := dmut_fin (m := l.length) (ys := flat dxc (l.set i (⟨⟨(ip : Nat), kv, kc, k, rulesC k⟩, pn, Yn⟩ : Dx))) (base2 := w.heap.size) ho5 ho4 (by omega) (by first | rfl | (rw [List.take_of_length_le (by omega)]; rfl) | simp) (by omega)
 exact ⟨rfl, A9, c9, pn, Yn, q1, q2, hPn, (fun q hq => by have h9 := hYn q hq; omega), hS⟩

end Go.Proofs.YthchmlidobgkoaaGreat
end

section
/- Layer 20, the document's node: none is there. -/
set_option linter.unusedVariables false
set_option linter.unusedSimpArgs false
set_option maxRecDepth 100000
set_option maxHeartbeats 4000000
namespace Go.Proofs.YthchmlidobgkoaaGreat
open Go.Vc Go.RowKit

theorem rooms_succ {rs : List Int} {i : Nat} (hi : i < rs.length) : (rs.take (i + 1)).map rmC = (rs.take i).map rmC ++ [rmC (rs.getD i 0)] := by
  rw [List.take_add_one, List.map_append]
  simp [List.getElem?_eq_getElem hi]
theorem dnnew_any (A : Option Addr) (m c Bd : Nat) (rs : List Int) (w : World) (hn : rs.length = m) (hA : Sl w Bd A (iL .i64 rs)) (hB : Bd ≤ w.heap.size) (hnc : m ≤ c) (hmx : m ≤ maxLen) :
  CV Tryz.prog 7 #[.slice A m c] w (fun x w1 => ∃ nd rA rc base, x = Pt nd 0 ∧ w.heap.size ≤ nd ∧ Own w1 nd #[.slice rA (roomsN rs).length rc, .slice none 0 0] 55 ∧ w.heap.size ≤ base ∧ Rw w1 base 3 rA (roomsN rs).length rc (iL .i64 (roomsN rs)) ∧ Step No w w1) := by
 have hS : Step No w w := Step.refl _ _
 refine VCe Tryz.func7 (Vrp (Vs (Vr (Vp 1 ?_))))
 have hzk1 := hB
 refine Vx 1 55 #[.slice none 0 0, .slice none 0 0] ?_
 intro b1 w1 hn1
 replace hS := Step.trans hS (hn1.step No)
 replace hA := hA.no (hn1.step No)
 replace hB := Nat.le_trans hB (hn1.step No).size
 have ho1 := hn1.own
 have hzhn1 := hn1.size
 have hqhn1 := hn1.eqb
 refine Ve (Vn (Vs (Vrp (VC_block ?_))))
 obtain ⟨base1, hbE⟩ : ∃ x, x = w1.heap.size := ⟨_, rfl⟩
 have hbl : base1 ≤ w1.heap.size := Nat.le_of_eq hbE
 have hrn := RwS.nil w1 1 base1 3
 refine VC_loop (σ := Nat × (Option Addr) × Nat) (fun σs => [(0, .slice A m c), (3, Pt b1 0), (4, I6 ((σs.1 : Nat) : Int))]) (fun σs w2 => (σs.1 ≤ min m 8) ∧ (Step No w w2) ∧ (Sl w2 Bd A (iL .i64 rs)) ∧ (Bd ≤ w2.heap.size) ∧ (base1 ≤ w2.heap.size) ∧ (Own w2 b1 #[.slice σs.2.1 σs.1 σs.2.2, .slice none 0 0] 55) ∧ (Rw w2 base1 3 σs.2.1 σs.1 σs.2.2 (iL .i64 ((rs.take σs.1).map rmC)))) (fun σs w2 => min m 8 - σs.1) ⟨0, none, 0⟩ Su ?_ ?_
 ·exact ⟨Nat.zero_le _, hS, hA, hB, hbl, (Own.cast ho1 (by rfl)), hrn⟩
 rintro ⟨i, Ar, cr⟩ w2 ⟨hi, hS, hA, hB, hbl, ho2, hrr⟩
 try dsimp only at hi hS hA hB hbl ho2 hrr ⊢
 refine Vs (Vs (Vr (VL_pure 5 [0, 3, 4, 11] [(0, .slice A m c), (3, Pt b1 0), (4, I6 ((i : Nat) : Int)), (11, Bo (decide (((i : Nat) : Int) < ((m : Nat) : Int))))] (by kernel_rfl) rfl (VL_dec (((i : Nat) : Int) < ((m : Nat) : Int)) (fun bV => [(0, .slice A m c), (3, Pt b1 0), (4, I6 ((i : Nat) : Int)), (11, Bo bV)]) rfl (fun hg1 => ?_) (fun hg1 => ?_)))))
 ·refine Ve (Vn (Vid (((i : Nat) : Int) < 8) (fun h1 => ?_) (fun h1 => ?_)))
  ·refine VC_skip (Vn (Vs (VC_block ?_)))
   obtain ⟨sb1, so1, rfl, hlbsb1⟩ := hA.open (by rw [iL_length]; omega)
   have hs1 := drew_step w2
   have hs1z : w2.heap.size = w2.drew.heap.size := rfl
   refine Tx 13 (fun k => base1 ≤ k ∨ w2.heap.size ≤ k) [11, 12] [0, 1, 2, 3, 4, 5, 6, 7, 8, 9, 10, 11, 12] ?_
   have hzl1 := ho2.lt
   generalize w2.drew = w3 at hs1 hs1z ⊢
   replace hS := Step.trans hS hs1
   replace hA := hA.no hs1
   replace hB := Nat.le_trans hB (hs1).size
   replace hbl := Nat.le_trans hbl (hs1).size
   replace ho2 := ho2.no hs1
   replace hrr := hrr.no hs1
   refine Tp 4 (Tl (fun w4 hr1 => ho2.step hr1 (by (try simp only); omega)) (Tp 2 (VT_index (d := 24) (b := sb1) (o := so1) (len := m) (sz := 1) (mm := ((i : Nat) : Int)) (by kernel_rfl) (by kernel_rfl) i (by rfl) (by omega) (so1 + i) (by omega) (VT_load (d := 25) (t := 3) (a := ⟨sb1, so1 + i, none⟩) (v := I6 (rs.getD i 0)) (by kernel_rfl) (by kernel_rfl) ?_ ?_))))
   ·intro w5 hr2
    replace hA := hA.keepB hr2 (by (try simp only); omega)
    exact (Sl.ldI hA (by kernel_rfl) i (by (try simp only [List.length_set, List.length_append, List.length_map, List.length_replicate, List.length_cons, List.length_nil, List.length_take, List.length_drop, List.length_range]) <;> omega))
   refine Tp 2 (Th ?_)
   intro w6 hs2
   replace hS := Step.trans hS hs2
   replace hA := hA.no hs2
   replace hB := Nat.le_trans hB (hs2).size
   replace hbl := Nat.le_trans hbl (hs2).size
   replace ho2 := ho2.no hs2
   replace hrr := hrr.no hs2
   refine VTc_bs (d := 28) (e := 3) (c := #[I6 (imax 0 (imin (rs.getD i 0) 1152921504606846976))]) (len := 1) (by kernel_rfl) (by kernel_rfl) (fun b w1 hn => hn.step _) ?_
   intro b2 w7 hn2
   replace hS := Step.trans hS (hn2.step No)
   replace hA := hA.no (hn2.step No)
   replace hB := Nat.le_trans hB (hn2.step No).size
   replace hbl := Nat.le_trans hbl (hn2.step No).size
   replace ho2 := ho2.no (hn2.step No)
   replace hrr := hrr.no (hn2.step No)
   have ho3 := hn2.own
   refine Th ?_
   intro w8 hs3
   replace hS := Step.trans hS hs3
   replace hA := hA.no hs3
   replace hB := Nat.le_trans hB (hs3).size
   replace hbl := Nat.le_trans hbl (hs3).size
   replace ho2 := ho2.no hs3
   replace hrr := hrr.no hs3
   replace ho3 := ho3.no hs3
   have hzk7 := hbl
   refine VTc_appendS (d := 29) (e := 3) (A := Ar) (mm := i) (c := cr) (A2 := (some ⟨b2, 0, none⟩)) (m2 := 1) (c2 := 1) (bytes := 8) (by kernel_rfl) (by kernel_rfl) (by kernel_rfl) base1 w8.heap.size (iL .i64 ((rs.take i).map rmC)) (iL .i64 ([imax 0 (imin (rs.getD i 0) 1152921504606846976)])) hrr (by rw [iL_length]; first | done | exact rfl) (Sl.mono (Own.sl ho3 ho3.lt) (by first | exact Nat.le_refl _ | omega)) iL_one (i + 1) (by omega) (by simp only [maxLen]; omega) (by omega) (by omega) ?_ ?_
   ·intro w1 hs1; exact Step.mono hs1 (by intro i hi; (try simp only at hi ⊢); omega)
   intro A1 c1 w9 hr3 hg2
   replace hr3 : Rw w9 base1 3 A1 (i + 1) c1 (iL .i64 (((rs.take i).map rmC) ++ ([imax 0 (imin (rs.getD i 0) 1152921504606846976)]))) := Rw.cast hr3 rfl (by simp only [iL, List.map_append, List.map_cons, List.map_nil, List.append_assoc, List.cons_append, List.nil_append, List.append_nil])
   replace hS := Step.transNew hS hg2 (fun i hi hG => by (try simp only at hG); omega)
   replace hA := hA.keepB hg2 (by (try simp only); omega)
   replace hB := Nat.le_trans hB (hg2).size
   replace hbl := Nat.le_trans hbl (hg2).size
   replace ho2 := ho2.step hg2 (by (try simp only); omega)
   refine VT_end ?_
   intro w10 hs4
   replace hS := Step.trans hS hs4
   replace hA := hA.no hs4
   replace hB := Nat.le_trans hB (hs4).size
   replace hbl := Nat.le_trans hbl (hs4).size
   replace ho2 := ho2.no hs4
   replace hr3 := hr3.no hs4
   refine Vst 15 (o := 0) [.slice A1 (i + 1) c1] ho2 #[.slice A1 (i + 1) c1, .slice none 0 0] ?_
   intro w11 hw1
   replace hS := Step.transNew hS hw1.step (fun _ _ _ => by omega)
   replace hA := hA.keepB hw1.step (show ¬ sb1 = b1 by omega)
   replace hB := Nat.le_trans hB (hw1.step).size
   replace hbl := Nat.le_trans hbl (hw1.step).size
   replace hr3 := hr3.step hw1.step (fun k hk (hF : k = b1) => by omega)
   have ho4 := hw1.own
   refine Ve (VQ_block_normal (Vn (Vr (Vp 2 ?_))))
   have he1 : IntKind.wrap .i64 (((i : Nat) : Int) + 1) = ((i + 1 : Nat) : Int) := (by rw [wrap_i64 _ (by omega) (by omega)]; omega)
   refine Vq 16 (I6 (IntKind.wrap .i64 (((i : Nat) : Int) + 1))) (I6 ((i + 1 : Nat) : Int)) (by rw [he1]) (Ve (VQ_again ⟨i + 1, A1, c1⟩ Su ?_ ?_))
   ·exact ⟨(by omega), hS, hA, hB, hbl, (Own.cast ho4 (by rfl)), (Rw.cast hr3 rfl (by rw [rooms_succ (by omega)]; rfl))⟩
   ·(try dsimp only); omega
  ·refine VC_exit (VQ_then_exit (VQ_then_exit (VQ_block_hit (Vn (Vrp (VC_ret (Vr1 (Pt b1 0) ?_)))))))
   have hin : i = min m 8 := by omega
   have hlen : (roomsN rs).length = min m 8 := by rw [roomsN_len, hn]
   exact ⟨b1, Ar, cr, base1, rfl, by omega, Own.cast ho2 (by rw [hlen, hin]), by omega, by rw [hlen, ← hin]; exact Rw.cast hrr rfl (by unfold roomsN; rw [hn, hin]), hS⟩
 ·refine Ve (Vn (Vf (VC_exit (VQ_then_exit (VQ_then_exit (VQ_block_hit (Vn (Vrp (VC_ret (Vr1 (Pt b1 0) ?_))))))))))
  have hin : i = min m 8 := by omega
  have hlen : (roomsN rs).length = min m 8 := by rw [roomsN_len, hn]
  exact ⟨b1, Ar, cr, base1, rfl, by omega, Own.cast ho2 (by rw [hlen, hin]), by omega, by rw [hlen, ← hin]; exact Rw.cast hrr rfl (by unfold roomsN; rw [hn, hin]), hS⟩

end Go.Proofs.YthchmlidobgkoaaGreat
end

section
/- Layer 20, the document's side: what a node answers, and what it is then. -/
set_option linter.unusedVariables false
set_option linter.unusedSimpArgs false
namespace Go.Proofs.YthchmlidobgkoaaGreat
open Go.Vc Go.RowKit
abbrev ApD (d e : Dx) : Prop := ∀ q, d.Y q → ¬ e.Y q
theorem ApD.symm {d e : Dx} (h : ApD d e) : ApD e d := fun q h1 h2 => h q h2 h1
theorem apart_ins {l P S : List Dx} {d : Dx} (hl : l.Pairwise ApD) (hsub : (P ++ S).Sublist l) (hd : ∀ e ∈ P ++ S, ApD d e) : (P ++ d :: S).Pairwise ApD :=
  (List.Perm.pairwise_iff (fun h => ApD.symm h) List.perm_middle).2 (List.pairwise_cons.2 ⟨hd, hl.sublist hsub⟩)
theorem sub_cut (l : List Dx) (i : Nat) : (l.take i ++ l.drop (i + 1)).Sublist l := by
  have h : (l.take i ++ l.drop (i + 1)).Sublist (l.take i ++ l.drop i) := List.Sublist.append_left (List.drop_sublist_drop_left l (by omega)) _
  rwa [List.take_append_drop] at h
def DNext (w : World) (nd : Nat) (X : Nat → Prop) (lo Bd : Nat) (rooms : List Int) (L : List Cx) (w1 : World) : Prop := ∃ X9, DnP w1 nd X9 lo Bd rooms L ∧ (∀ q, X9 q → X q ∨ w.heap.size ≤ q) ∧ Step X w w1
section
variable {w w1 w' : World} {F X : Nat → Prop} {nd lo Bd : Nat} {rooms : List Int} {l l2 : List Dx} {L : List Cx} {rA A A2 : Option Addr} {rc c c2 : Nat}
theorem DNext.of_no (h : DnP w nd X lo Bd rooms L) (hs : Step No w w1) : DNext w nd X lo Bd rooms L w1 := ⟨X, h.no hs, fun q hq => .inl hq, hs.weak⟩
theorem DnX.raw (h : DnX w nd X lo Bd rooms l rA rc A c) : ∃ lo hi, hi ≤ w.heap.size ∧ Sl2 w lo hi A (flat dxc l) ∧ (nd < lo ∨ hi ≤ nd) := by
  rcases h.lrow with he | ⟨b, rfl, hr, hb⟩
  · refine ⟨0, 0, Nat.zero_le _, fun h0 => ?_, .inr (Nat.zero_le _)⟩
    rw [he] at h0; simp at h0
  · have hne : nd ≠ b := tyb_ne h.own.tyB hr.ty (by decide)
    exact ⟨b, b + 1, hr.lt, hr.sl, by omega⟩
theorem DnX.rawr (h : DnX w nd X lo Bd rooms l rA rc A c) : ∃ rl rh, rh ≤ w.heap.size ∧ Sl2 w rl rh rA (iL .i64 rooms) := by
  obtain ⟨hi, h1, h2⟩ := h.rrow.sl2 h.low
  exact ⟨_, hi, h1, h2⟩
theorem DnX.lo_le (h : DnX w nd X lo Bd rooms l rA rc A c) : lo ≤ w.heap.size := by have := h.low nd h.inN; have := h.own.lt; omega
theorem DnX.remake {base : Nat} (h : DnX w nd X lo Bd rooms l rA rc A c) (hs : Step (Just nd) w w1) (ho : Own w1 nd #[.slice rA rooms.length rc, .slice A2 l2.length c2] 55) (hr : RwS w1 10 base 67 A2 l2.length c2 (flat dxc l2)) (hb : w.heap.size ≤ base)
    (hp : ∀ d ∈ l2, DPl w1 d.pp d.Y d.x.k d.x.rs ∧ ∀ q, d.Y q → X q ∨ w.heap.size ≤ q) (ha : l2.Pairwise ApD) (hc : l2.length ≤ c2) : ∃ X9, DnX w1 nd X9 lo Bd rooms l2 rA rc A2 c2 ∧ (∀ q, X9 q → X q ∨ w.heap.size ≤ q) ∧ Step X w w1 := by
  have hX : ∀ q, X q → DNT w1 q := by
    intro q hq
    by_cases e : q = nd
    · subst e; exact .inl ho.tyB
    · exact (h.ty q hq).step hs e
  refine ⟨fun q => X q ∨ (w.heap.size ≤ q ∧ (TyB w1 67 q ∨ DT w1 q)), ⟨ho, ?_, ?_, ?_, ha, .inl h.inN, ?_, ?_, ?_, h.rcap, hc⟩, ?_, hs.mono fun q hq => by rw [show q = nd from hq]; exact h.inN⟩
  · rcases h.rrow with he | ⟨b, rfl, hr, hb⟩
    · exact .inl he
    · exact .inr ⟨b, rfl, hr.step hs (fun e => tyb_ne hr.ty h.own.tyB (by decide) e), .inl hb⟩
  · refine rowOf.of_rw hr (fun h0 => ?_) (fun b hob h0 => .inr ⟨?_, .inl (RwS.tyB hr hob)⟩)
    · rw [List.length_eq_zero_iff.1 h0]; rfl
    · have := (RwS.lt hr b hob).1; omega
  · intro d hd
    refine ⟨(hp d hd).1, fun q hq => ?_⟩
    rcases (hp d hd).2 q hq with h1 | h1
    · exact .inl h1
    · exact .inr ⟨h1, .inr ((hp d hd).1.ty hq)⟩
  · rintro q (hq | ⟨_, hq | hq⟩)
    · exact hX q hq
    · exact .inr (.inl hq)
    · exact .inr (.inr (.inr hq))
  · rintro q (hq | ⟨hq, _⟩)
    · exact h.low q hq
    · have := h.lo_le; omega
  · rintro q (hq | ⟨hq, h1⟩) ht
    · by_cases e : q = nd
      · subst e; exact absurd rfl (tyb_ne ho.tyB ht (by decide))
      · exact h.up q hq (tyb_back ht hs (h.ty q hq).lt e)
    · exfalso
      rcases h1 with h1 | h1 | h1 | h1 | h1 <;> exact absurd rfl (tyb_ne h1 ht (by decide))
  · rintro q (hq | ⟨hq, _⟩)
    · exact .inl hq
    · exact .inr hq
theorem pol_keep (h : DnX w nd X lo Bd rooms l rA rc A c) (hs : Step (Just nd) w w1) : ∀ d ∈ l, DPl w1 d.pp d.Y d.x.k d.x.rs ∧ ∀ q, d.Y q → X q ∨ w.heap.size ≤ q := fun d hd =>
  ⟨(h.pol d hd).1.step hs fun q hq e => by rcases (h.pol d hd).1.ty hq with h1 | h1 | h1 | h1 <;> exact tyb_ne h1 h.own.tyB (by decide) e, fun q hq => .inl ((h.pol d hd).2 q hq)⟩
theorem olds (h : DnX w nd X lo Bd rooms l rA rc A c) {d e : Dx} (he : e ∈ l) (hd : ∀ q, d.Y q → w.heap.size ≤ q) : ApD d e := fun q h1 h2 => by
  have := ((h.pol e he).1.ty h2).lt
  have := hd q h1
  omega
abbrev KVd (p v c : Int) : Value := .agg #[.int .i64 p, .int .i64 v, .int .i64 c]
abbrev CVd (k : Con) : Value := .agg #[.int .i64 k.kind, .int .i64 k.peak, .int .i64 k.early, .int .i64 k.whole, .int .i64 k.burst, .int .i64 k.least]
theorem len64 (h : LI rooms (l.map Dx.x)) : l.length ≤ 64 := by have := h.len; rwa [List.length_map] at this
theorem map_ins {p v c : Int} {k : Con} {pn : Nat} {Yn : Nat → Prop} : (l.take (aheadE (eD l) p v c) ++ (⟨⟨p, v, c, k, rulesC k⟩, pn, Yn⟩ : Dx) :: l.drop (aheadE (eD l) p v c)).map Dx.x = insC (l.map Dx.x) ⟨p, v, c, k, rulesC k⟩ := by
  unfold insC aheadC
  rw [List.map_append, List.map_cons, List.map_take, List.map_drop, show (l.map Dx.x).map Cx.e0 = eD l by unfold eD; rw [List.map_map]; rfl]
theorem dddrop (h : DnP w nd X lo Bd rooms L) (p v c : Int) : CV Tryz.prog 15 #[.pointer (some ⟨nd, 0, none⟩), KVd p v c] w fun x w1 => x = .bool (findC L p v c).isSome ∧ DNext w nd X lo Bd rooms (delC L p v c) w1 := by
  have hD := h
  obtain ⟨h0, l, rA, rc, A, ca, rfl, hX⟩ := h
  obtain ⟨l0, h1, h2, h3, h4⟩ := hX.raw
  rcases atD_cases l p v c with ⟨ha, hf⟩ | ⟨i, y, ha, hy, hf, hk⟩
  · refine (ddrop_no nd l0 h1 rooms l rA rc A ca p v c w hX.own hX.lcap h2 h3 h4 (len64 h0) ha).mono ?_
    rintro x w1 ⟨rfl, hs⟩
    rw [hf]
    exact ⟨rfl, by rw [delC_none hf]; exact DNext.of_no hD hs⟩
  · refine (ddrop_yes nd l0 h1 rooms l rA rc A ca p v c w hX.own hX.lcap h2 h3 h4 (len64 h0) i y ha hy).mono ?_
    rintro x w1 ⟨rfl, A2, c2, ho, hr, hs⟩
    have hiL := (List.getElem?_eq_some_iff.1 hy).1
    have hlen : (l.take i ++ l.drop (i + 1)).length = l.length - 1 := by simp only [List.length_append, List.length_take, List.length_drop]; omega
    have hcap : l.length - 1 ≤ c2 := by
      rcases hr.2 with ⟨hv, hn⟩ | ⟨g, cap, cur, hv, _, _, hc, _⟩
      · omega
      · cases hv; exact hc
    rw [← hlen] at ho hr hcap
    obtain ⟨X9, q1, q2, q3⟩ := hX.remake hs ho hr (Nat.le_refl _) (fun d hd => pol_keep hX hs d ((sub_cut l i).subset hd)) (hX.apart.sublist (sub_cut l i)) hcap
    have hmap : (l.take i ++ l.drop (i + 1)).map Dx.x = delC (l.map Dx.x) p v c := by
      rw [List.map_append, List.map_take, List.map_drop]
      exact del_take h0.one (by rw [List.getElem?_map, hy]; rfl) hk
    rw [hf]
    exact ⟨rfl, X9, ⟨h0.drop p v c, _, rA, rc, A2, c2, hmap.symm, q1⟩, q2, q3⟩
theorem ddtake (h : DnP w nd X lo Bd rooms L) (p v c : Int) (k : Con) (he : chkN rooms L p v c k = 0) : CV Tryz.prog 11 #[.pointer (some ⟨nd, 0, none⟩), KVd p v c, CVd k] w fun x w1 => x = .int .i64 0 ∧ DNext w nd X lo Bd rooms (takeN rooms L p v c k) w1 := by
  obtain ⟨h0, l, rA, rc, A, ca, rfl, hX⟩ := h
  obtain ⟨l0, h1, h2, h3, h4⟩ := hX.raw
  obtain ⟨rl, rh, r1, r2⟩ := hX.rawr
  have hk : rightC k = 0 := (wrongN_zero (chkN_zero he).1).2.2.2
  have hT : takeN rooms (l.map Dx.x) p v c k = insC (l.map Dx.x) ⟨p, v, c, k, rulesC k⟩ := by unfold takeN; rw [if_pos he]
  have hLI := h0.take p v c k
  have fin : ∀ (w1 : World) (A2 : Option Addr) (c2 pn : Nat) (Yn : Nat → Prop) (l2 : List Dx), l2 = l.take (aheadE (eD l) p v c) ++ (⟨⟨p, v, c, k, rulesC k⟩, pn, Yn⟩ : Dx) :: l.drop (aheadE (eD l) p v c) → Own w1 nd #[.slice rA rooms.length rc, .slice A2 l2.length c2] 55 → RwS w1 10 w.heap.size 67 A2 l2.length c2 (flat dxc l2) → DPl w1 pn Yn k (rulesC k) → (∀ q, Yn q → w.heap.size ≤ q) → Step (Just nd) w w1 → DNext w nd X lo Bd rooms (takeN rooms (l.map Dx.x) p v c k) w1 := by
    intro w1 A2 c2 pn Yn l2 e2 ho hr hP hY hs
    have hcap : l2.length ≤ c2 := by
      rcases hr.2 with ⟨hv, hn⟩ | ⟨g, cap, cur, hv, _, _, hc, _⟩
      · omega
      · cases hv; exact hc
    have hsub : (l.take (aheadE (eD l) p v c) ++ l.drop (aheadE (eD l) p v c)).Sublist l := by rw [List.take_append_drop]; exact List.Sublist.refl _
    obtain ⟨X9, q1, q2, q3⟩ := hX.remake hs ho hr (Nat.le_refl _) (fun d hd => by
      rw [e2] at hd
      rcases List.mem_append.1 hd with hd | hd
      · exact pol_keep hX hs d (List.mem_of_mem_take hd)
      · rcases List.mem_cons.1 hd with rfl | hd
        · exact ⟨hP, fun q hq => .inr (hY q hq)⟩
        · exact pol_keep hX hs d (List.mem_of_mem_drop hd)) (by rw [e2]; exact apart_ins hX.apart hsub fun e he => olds hX (hsub.subset he) hY) hcap
    exact ⟨X9, ⟨hLI, l2, rA, rc, A2, c2, by rw [hT, e2, map_ins], q1⟩, q2, q3⟩
  rcases Nat.eq_zero_or_pos l.length with hz | hz
  · have hn := List.length_eq_zero_iff.1 hz
    have ho0 := hX.own
    rw [hz] at ho0
    refine (dntake_first nd l0 h1 rooms l rA rc A ca p v c w ho0 hX.lcap h2 h3 h4 (len64 h0) rl rh k hX.rcap r1 r2 h0 he hk hn).mono ?_
    rintro x w1 ⟨rfl, A2, c2, pn, Yn, ho, hr, hP, hY, hs⟩
    refine ⟨rfl, fin w1 A2 c2 pn Yn [⟨⟨p, v, c, k, rulesC k⟩, pn, Yn⟩] ?_ ho hr hP hY hs⟩
    subst hn; rfl
  · refine (dntake_more nd l0 h1 rooms l rA rc A ca p v c w hX.own hX.lcap h2 h3 h4 (len64 h0) rl rh k hX.rcap r1 r2 h0 he hk hz).mono ?_
    rintro x w1 ⟨rfl, A2, c2, pn, Yn, ho, hr, hP, hY, hs⟩
    have hlen : (l.take (aheadE (eD l) p v c) ++ (⟨⟨p, v, c, k, rulesC k⟩, pn, Yn⟩ : Dx) :: l.drop (aheadE (eD l) p v c)).length = l.length + 1 := by
      rw [List.length_append, List.length_cons, List.length_take, List.length_drop]; omega
    rw [← hlen] at ho hr
    exact ⟨rfl, fin w1 A2 c2 pn Yn _ rfl ho hr hP hY hs⟩
theorem ddtake_any (h : DnP w nd X lo Bd rooms L) (p v c : Int) (k : Con) : CV Tryz.prog 11 #[.pointer (some ⟨nd, 0, none⟩), KVd p v c, CVd k] w fun x w1 => x = .int .i64 (chkN rooms L p v c k) ∧ DNext w nd X lo Bd rooms (takeN rooms L p v c k) w1 := by
  by_cases he : chkN rooms L p v c k = 0
  · rw [he]; exact ddtake h p v c k he
  · have hD := h
    obtain ⟨h0, l, rA, rc, A, ca, rfl, hX⟩ := h
    obtain ⟨l0, h1, h2, h3, h4⟩ := hX.raw
    obtain ⟨rl, rh, r1, r2⟩ := hX.rawr
    refine (dntake_no nd l0 h1 rooms l rA rc A ca p v c w hX.own hX.lcap h2 h3 h4 (len64 h0) rl rh k hX.rcap r1 r2 h0 _ rfl he).mono ?_
    rintro x w1 ⟨rfl, hs⟩
    refine ⟨rfl, ?_⟩
    unfold takeN
    rw [if_neg he]
    exact DNext.of_no hD hs
theorem map_set {i : Nat} {y d : Dx} {p v c : Int} {f : Cx → Cx} (h : OneK (l.map Dx.x)) (hy : l[i]? = some y) (hk : keyX p v c y.x = true) (hd : d.x = f y.x) : (l.set i d).map Dx.x = setC (l.map Dx.x) p v c f := by
  rw [List.map_set, hd]
  exact set_setC h (by rw [List.getElem?_map, hy]; rfl) hk f
theorem set_cut {i : Nat} (hi : i < l.length) (d : Dx) : l.set i d = l.take i ++ d :: l.drop (i + 1) := List.set_eq_take_append_cons_drop ▸ (if_pos hi)
theorem ddchange (h : DnP w nd X lo Bd rooms L) (p v c : Int) (k : Con) : CV Tryz.prog 13 #[.pointer (some ⟨nd, 0, none⟩), KVd p v c, CVd k] w fun x w1 => x = .int .i64 (chgK rooms L p v c k) ∧ DNext w nd X lo Bd rooms (chgN rooms L p v c k) w1 := by
  have hD := h
  obtain ⟨h0, l, rA, rc, A, ca, rfl, hX⟩ := h
  obtain ⟨l0, h1, h2, h3, h4⟩ := hX.raw
  obtain ⟨rl, rh, r1, r2⟩ := hX.rawr
  have r2' := Sl2.sl r2
  have no : ∀ e : Int, e ≠ 0 → chgK rooms (l.map Dx.x) p v c k = e → CV Tryz.prog 13 #[.pointer (some ⟨nd, 0, none⟩), KVd p v c, CVd k] w (fun x w1 => x = .int .i64 e ∧ Step No w w1) → CV Tryz.prog 13 #[.pointer (some ⟨nd, 0, none⟩), KVd p v c, CVd k] w fun x w1 => x = .int .i64 (chgK rooms (l.map Dx.x) p v c k) ∧ DNext w nd X lo Bd rooms (chgN rooms (l.map Dx.x) p v c k) w1 := by
    intro e he hK hc
    refine hc.mono ?_
    rintro x w1 ⟨rfl, hs⟩
    rw [hK]
    refine ⟨rfl, ?_⟩
    unfold chgN
    rw [if_neg (by rw [hK]; exact he)]
    exact DNext.of_no hD hs
  have wr : ∀ e : Int, e ≠ 0 → wrongN rooms p v c k = e → chgK rooms (l.map Dx.x) p v c k = e := by
    intro e he hw
    unfold chgK; rw [if_neg (by rw [hw]; exact he), hw]
  cases hrr : rightB p v c with
  | false => exact no 3 (by decide) (wr 3 (by decide) (dwrong_3 (.inl (.inl hrr)))) (dchange_3a nd l0 h1 rooms l rA rc A ca p v c w hX.own hX.lcap h2 h3 h4 (len64 h0) rl rh k hX.rcap r1 r2' h0 hrr)
  | true =>
    by_cases hc : c < 32
    · exact no 3 (by decide) (wr 3 (by decide) (dwrong_3 (.inl (.inr hc)))) (dchange_3b nd l0 h1 rooms l rA rc A ca p v c w hX.own hX.lcap h2 h3 h4 (len64 h0) rl rh k hX.rcap r1 r2' h0 hrr hc)
    · by_cases hp : p ≥ rooms.length
      · exact no 3 (by decide) (wr 3 (by decide) (dwrong_3 (.inr hp))) (dchange_3c nd l0 h1 rooms l rA rc A ca p v c w hX.own hX.lcap h2 h3 h4 (len64 h0) rl rh k hX.rcap r1 r2' h0 hrr hc hp)
      · by_cases hk : rightC k = 0
        · have hw0 : wrongN rooms p v c k = 0 := dwrong_0 ⟨⟨hrr, hc⟩, hp⟩ hk
          rcases atD_cases l p v c with ⟨ha, hf⟩ | ⟨i, y, ha, hy, hf, hky⟩
          · exact no 81 (by decide) (by unfold chgK; rw [if_pos hw0, hf]) (dchange_81 nd l0 h1 rooms l rA rc A ca p v c w hX.own hX.lcap h2 h3 h4 (len64 h0) rl rh k hX.rcap r1 r2' h0 hrr hc hp hk ha)
          · have hp0 := right_ge hrr
            obtain ⟨ip, rfl⟩ : ∃ ip : Nat, p = ip := ⟨p.toNat, by omega⟩
            by_cases hgt : needC k > leftN rooms (l.map Dx.x) (ip : Nat) + needC y.x.k
            · exact no 37 (by decide) (by unfold chgK; rw [if_pos hw0, hf]; simp only; rw [if_pos hgt]) (dchange_37 nd l0 h1 rooms l rA rc A ca ip v c w hX.own hX.lcap h2 h3 h4 (len64 h0) rl rh k hX.rcap r1 r2' h0 hrr hc (by omega) hk i y ha hy hky hf hgt)
            · have hK : chgK rooms (l.map Dx.x) (ip : Nat) v c k = 0 := by unfold chgK; rw [if_pos hw0, hf]; simp only; rw [if_neg hgt]
              have hLI := h0.change (ip : Nat) v c k
              have hN : chgN rooms (l.map Dx.x) (ip : Nat) v c k = setC (l.map Dx.x) (ip : Nat) v c (newK k) := by unfold chgN; rw [if_pos hK]
              refine (dchange_yes nd l0 h1 rooms l rA rc A ca ip v c w hX.own hX.lcap h2 h3 h4 (len64 h0) rl rh k hX.rcap r1 r2' h0 hrr hc (by omega) hk i y ha hy hky hf hgt).mono ?_
              rintro x w1 ⟨rfl, A2, c2, pn, Yn, ho, hr, hP, hY, hs⟩
              have hiL := (List.getElem?_eq_some_iff.1 hy).1
              have hset := set_cut hiL (⟨⟨(ip : Nat), v, c, k, rulesC k⟩, pn, Yn⟩ : Dx)
              have hlen : (l.set i (⟨⟨(ip : Nat), v, c, k, rulesC k⟩, pn, Yn⟩ : Dx)).length = l.length := List.length_set
              rw [← hlen] at ho hr
              have hcap : (l.set i (⟨⟨(ip : Nat), v, c, k, rulesC k⟩, pn, Yn⟩ : Dx)).length ≤ c2 := by
                rcases hr.2 with ⟨hv, hn⟩ | ⟨g, cap, cur, hv, _, _, hc, _⟩
                · omega
                · cases hv; exact hc
              obtain ⟨X9, q1, q2, q3⟩ := hX.remake hs ho hr (Nat.le_refl _) (fun d hd => by
                rw [hset] at hd
                rcases List.mem_append.1 hd with hd | hd
                · exact pol_keep hX hs d (List.mem_of_mem_take hd)
                · rcases List.mem_cons.1 hd with rfl | hd
                  · exact ⟨hP, fun q hq => .inr (hY q hq)⟩
                  · exact pol_keep hX hs d (List.mem_of_mem_drop hd)) (by rw [hset]; exact apart_ins hX.apart (sub_cut l i) fun e he => olds hX ((sub_cut l i).subset he) hY) hcap
              have e1 := keyX_iff.1 hky
              refine ⟨by rw [hK], X9, ⟨hLI, _, rA, rc, A2, c2, ?_, q1⟩, q2, q3⟩
              rw [hN]
              refine (map_set (f := newK k) h0.one hy hky ?_).symm
              unfold newK
              rw [← e1.1, ← e1.2.1, ← e1.2.2]
        · exact no 73 (by decide) (wr 73 (by decide) (dwrong_73 ⟨⟨hrr, hc⟩, hp⟩ hk)) (dchange_73 nd l0 h1 rooms l rA rc A ca p v c w hX.own hX.lcap h2 h3 h4 (len64 h0) rl rh k hX.rcap r1 r2' h0 hrr hc hp hk)
theorem ddnew {A : Option Addr} {m c Bd : Nat} {rs : List Int} (hn : rs.length = m) (hA : Sl w Bd A (iL .i64 rs)) (hB : Bd ≤ w.heap.size) (hnc : m ≤ c) (hmx : m ≤ maxLen) : CV Tryz.prog 7 #[.slice A m c] w fun x w1 => ∃ nd X, x = .pointer (some ⟨nd, 0, none⟩) ∧ DnP w1 nd X w.heap.size w1.heap.size (roomsN rs) [] ∧ Step No w w1 := by
  refine (dnnew_any A m c Bd rs w hn hA hB hnc hmx).mono ?_
  rintro x w1 ⟨nd, rA, rc, base, rfl, hb, ho, hbase, hr, hs⟩
  have hok := roomsN_ok rs
  have hrc : (roomsN rs).length ≤ rc := by
    rcases hr.2 with ⟨hv, hn⟩ | ⟨g, cap, cur, hv, _, _, hc, _⟩
    · omega
    · cases hv; exact hc
  refine ⟨nd, fun q => q = nd ∨ ownB rA q ∧ 0 < (roomsN rs).length, rfl, ⟨LI.nil hok.1 hok.2, [], rA, rc, none, 0, rfl, ⟨ho, ?_, .inl rfl, (fun d hd => by cases hd), .nil, .inl rfl, ?_, ?_, ?_, hrc, Nat.le_refl _⟩⟩, hs⟩
  · exact rowOf.of_rw hr (fun h0 => by rw [List.length_eq_zero_iff.1 h0]; rfl) fun b hb h0 => .inr ⟨hb, h0⟩
  · rintro q (rfl | ⟨hq, _⟩)
    · exact .inl ho.tyB
    · exact .inr (.inr (.inl (RwS.tyB hr hq)))
  · rintro q (rfl | ⟨hq, _⟩)
    · exact hb
    · have := (RwS.lt hr q hq).1; omega
  · rintro q (rfl | ⟨hq, _⟩) ht
    · exact ho.lt
    · exact (RwS.lt hr q hq).2
end
end Go.Proofs.YthchmlidobgkoaaGreat
end

section
/- Layer 20: the sums by link; a contract of a key that is there. -/
set_option linter.unusedVariables false
set_option linter.unusedSimpArgs false
namespace Go.Proofs.YthchmlidobgkoaaGreat
open Go.Vc Go.RowKit
theorem usdL_next {L : List Cx} {k : Nat} {y : Cx} (hy : L[k]? = some y) (i : Int) : usdL (L.take (k + 1)) i = usdL (L.take k) i + (if y.p = i then needC y.k else 0) := by
  rw [takeC_next hy, usdL_append]; simp [usdL]
theorem usdL_take (L : List Cx) (k : Nat) (i : Int) : usdL (L.take k) i ≤ usdL L i := by
  have h := usdL_append (L.take k) (L.drop k) i
  rw [List.take_append_drop] at h
  have := usdL_nonneg (L.drop k) i
  omega
/-- What is known of a key's connection. -/
theorem NdP.at {w : World} {nd lo : Nat} {X : Nat → Prop} {rooms : List Int} {L : List Cx} {n k : Nat} {y : Cx} (h : NdP w nd X lo rooms L n) (hy : L[k]? = some y) : ∃ i : Nat, y.p = (i : Int) ∧ i < rooms.length ∧ i < 8 ∧ rightC y.k = 0 ∧ 0 ≤ usdL (L.take k) (i : Int) ∧ 0 ≤ needC y.k ∧ usdL (L.take k) (i : Int) + needC y.k ≤ 1152921504606846976 := by
  obtain ⟨⟨a1, a2⟩, _, _, a5⟩ := h.li.key y (List.mem_of_getElem? hy)
  obtain ⟨i, r, hp, hi, hr⟩ := port_nat ⟨a1, a2⟩
  have h1 := h.li.fit i r hr
  have h2 := (h.li.rooms r (List.mem_of_getElem? hr)).2
  have h3 := usdL_take L (k + 1) (i : Int)
  rw [usdL_next hy, if_pos hp] at h3
  have h4 := h.li.rm
  exact ⟨i, hp, hi, by omega, a5, usdL_nonneg _ _, (needC_le y.k).1, by omega⟩
theorem NdP.port {w : World} {nd lo : Nat} {X : Nat → Prop} {rs : List Int} {L : List Cx} {n m j : Nat} (h : NdP w nd X lo (roomsN rs) L n) (hm : rs.length = m) (hj : j < min 8 m) : usedN (roomsN rs) L (j : Int) = usdL L (j : Int) ∧ usdL L (j : Int) ≤ imax 0 (imin (rs.getD j 0) 1152921504606846976) ∧ leftN (roomsN rs) L (j : Int) = imax 0 (imin (rs.getD j 0) 1152921504606846976) - usdL L (j : Int) ∧ 0 ≤ usdL L (j : Int) ∧ imax 0 (imin (rs.getD j 0) 1152921504606846976) ≤ 1152921504606846976 := by
  have hr := roomsN_at hm (show j < min m 8 by omega)
  have e : (rs.take (min m 8)).getD j 0 = rs.getD j 0 := by simp [List.getD, List.getElem?_take, show j < min m 8 by omega]
  rw [e] at hr
  have hl := (List.getElem?_eq_some_iff.1 hr).1
  exact ⟨by unfold usedN; rw [if_pos ⟨by omega, by omega⟩], h.li.fit j _ hr, leftN_at hr, usdL_nonneg _ _, (h.li.rooms _ (List.mem_of_getElem? hr)).2⟩
end Go.Proofs.YthchmlidobgkoaaGreat
end

section
/- Layer 20, plain: what is done on one link plays no part on another one. -/
set_option linter.unusedVariables false
set_option linter.unusedSimpArgs false
namespace Go.Proofs.YthchmlidobgkoaaGreat
open Go.Vc Go.RowKit
end Go.Proofs.YthchmlidobgkoaaGreat
end

section
/- Layer 20: lists of connections that are alike but for their buckets; what is taken, and dropped again. Plain. -/
set_option linter.unusedVariables false
set_option linter.unusedSimpArgs false
namespace Go.Proofs.YthchmlidobgkoaaGreat
open Go.Vc Go.RowKit
def stc (x : Cx) : Cx := { x with rs := [] }
theorem find_st (L : List Cx) (p v c : Int) : findC (L.map stc) p v c = (findC L p v c).map stc := by unfold findC; rw [List.find?_map]; rfl
theorem usd_st (L : List Cx) (q : Int) : usdL (L.map stc) q = usdL L q := by
  induction L with
  | nil => rfl
  | cons x L ih => simp only [List.map_cons, usdL, ih]; rfl
theorem del_st (L : List Cx) (p v c : Int) : (delC L p v c).map stc = delC (L.map stc) p v c := by unfold delC; rw [List.filter_map]; rfl
theorem ins_st (L : List Cx) (x : Cx) : (insC L x).map stc = insC (L.map stc) (stc x) := by
  have h : aheadC (L.map stc) x.p x.v x.c = aheadC L x.p x.v x.c := by unfold aheadC; rw [List.map_map]; rfl
  unfold insC
  rw [show aheadC (L.map stc) (stc x).p (stc x).v (stc x).c = aheadC L x.p x.v x.c from h, List.map_append, List.map_cons, List.map_take, List.map_drop]
theorem set_st (L : List Cx) (p v c : Int) (f : Cx → Cx) (hf : ∀ x, stc (f x) = stc (f (stc x))) : (setC L p v c f).map stc = setC (L.map stc) p v c (fun x => stc (f x)) := by
  unfold setC
  rw [List.map_map, List.map_map]
  apply List.map_congr_left
  intro x _
  show stc (if keyX p v c x = true then f x else x) = if keyX p v c (stc x) = true then stc (f (stc x)) else stc x
  rw [show keyX p v c (stc x) = keyX p v c x from rfl]
  split
  · exact hf x
  · rfl
section
variable {rooms : List Int} {L M : List Cx} (h : L.map stc = M.map stc)
include h
theorem st_find (p v c : Int) : (findC L p v c).map stc = (findC M p v c).map stc := by rw [← find_st, ← find_st, h]
theorem st_some (p v c : Int) : (findC L p v c).isSome = (findC M p v c).isSome := by have := congrArg Option.isSome (st_find h p v c); simpa using this
theorem st_con (p v c : Int) : conN L p v c = conN M p v c := by
  have := st_find h p v c
  unfold conN
  cases hl : findC L p v c <;> cases hm : findC M p v c <;> rw [hl, hm] at this <;> simp at this ⊢
  exact (congrArg Cx.k this :)
theorem st_len : L.length = M.length := by have := congrArg List.length h; simpa using this
theorem st_usd (q : Int) : usdL L q = usdL M q := by rw [← usd_st, h, usd_st]
theorem st_left (p : Int) : leftN rooms L p = leftN rooms M p := by unfold leftN; rw [st_usd h]
theorem st_used (p : Int) : usedN rooms L p = usedN rooms M p := by unfold usedN; rw [st_usd h]
theorem st_chk (p v c : Int) (k : Con) : chkN rooms L p v c k = chkN rooms M p v c k := by unfold chkN; rw [st_some h, st_len h, st_left h]
theorem st_chg (p v c : Int) (k : Con) : chgK rooms L p v c k = chgK rooms M p v c k := by
  unfold chgK
  have := st_find h p v c
  cases hl : findC L p v c <;> cases hm : findC M p v c <;> rw [hl, hm] at this <;> simp at this ⊢
  rename_i a b
  have hk : a.k = b.k := (congrArg Cx.k this :)
  rw [st_left h, hk]
theorem st_take (p v c : Int) (k : Con) : (takeN rooms L p v c k).map stc = (takeN rooms M p v c k).map stc := by
  unfold takeN; rw [st_chk h]; split
  · rw [ins_st, ins_st, h]
  · exact h
theorem st_change (p v c : Int) (k : Con) : (chgN rooms L p v c k).map stc = (chgN rooms M p v c k).map stc := by
  unfold chgN; rw [st_chg h]; split
  · rw [set_st _ _ _ _ _ (fun _ => rfl), set_st _ _ _ _ _ (fun _ => rfl), h]
  · exact h
theorem st_del (p v c : Int) : (delC L p v c).map stc = (delC M p v c).map stc := by rw [del_st, del_st, h]
theorem st_ver (p v c t clp : Int) : (verN L p v c t clp).map stc = M.map stc := by
  rw [← h]
  unfold verN setC
  rw [List.map_map]
  apply List.map_congr_left
  intro x _
  show stc (if keyX p v c x = true then newR t clp x else x) = stc x
  split <;> rfl
def doD (rooms : List Int) (L : List Cx) (o : OpA) : List Cx := if o.d = 1 then takeN rooms L o.p o.v o.c o.k else if o.d = 2 then chgN rooms L o.p o.v o.c o.k else if o.d = 3 then delC L o.p o.v o.c else L
theorem st_do (o : OpA) : (doL rooms L o).map stc = (doD rooms M o).map stc := by
  unfold doL doD
  by_cases h1 : o.d = 1
  · rw [if_pos h1, if_pos h1]; exact st_take h _ _ _ _
  · rw [if_neg h1, if_neg h1]
    by_cases h2 : o.d = 2
    · rw [if_pos h2, if_pos h2]; exact st_change h _ _ _ _
    · rw [if_neg h2, if_neg h2]
      by_cases h3 : o.d = 3
      · rw [if_pos h3, if_pos h3]; exact st_del h _ _ _
      · rw [if_neg h3, if_neg h3]
        split
        · exact st_ver h _ _ _ _ _
        · exact h
theorem st_keyc {enc : Cx → List Value} (he : ∀ x, enc (stc x) = enc x) : flat enc L = flat enc M := by
  have : ∀ L : List Cx, flat enc (L.map stc) = flat enc L := by
    intro L
    induction L with
    | nil => rfl
    | cons x L ih => rw [List.map_cons, flat_cons, flat_cons, ih, he]
  rw [← this L, h, this M]
end
/-! ### Taken, and dropped again -/
def delAll (L T : List Cx) : List Cx := L.filter fun x => T.all fun y => !keyX y.p y.v y.c x
theorem delAll_nil (L : List Cx) : delAll L [] = L := by unfold delAll; simp
theorem delAll_snoc (L T : List Cx) (y : Cx) : delAll L (T ++ [y]) = delC (delAll L T) y.p y.v y.c := by
  unfold delAll delC
  rw [List.filter_filter]
  congr 1; funext x
  simp [List.all_append, Bool.and_comm]
theorem delAll_ins {L T : List Cx} {x : Cx} (hx : ∀ y ∈ L, keyX x.p x.v x.c y = false) : delAll (insC L x) (T ++ [x]) = delAll L T := by
  have h1 : delC (insC L x) x.p x.v x.c = L := by
    unfold insC delC
    rw [List.filter_append, List.filter_cons]
    have hk : keyX x.p x.v x.c x = true := keyX_iff.2 ⟨rfl, rfl, rfl⟩
    simp only [hk, Bool.not_true, Bool.false_eq_true, if_false]
    rw [List.filter_eq_self.2 fun y hy => by rw [hx y (List.mem_of_mem_take hy)]; rfl, List.filter_eq_self.2 fun y hy => by rw [hx y (List.mem_of_mem_drop hy)]; rfl, List.take_append_drop]
  have h2 : delAll (insC L x) (T ++ [x]) = delAll (delC (insC L x) x.p x.v x.c) T := by
    unfold delAll delC
    rw [List.filter_filter]
    congr 1; funext y
    simp [List.all_append]
  rw [h2, h1]
structure TkI (L0 L T : List Cx) : Prop where
  back : delAll L T = L0
  mem : ∀ x ∈ T, x ∈ L
  one : OneK T
theorem TkI.nil (L : List Cx) : TkI L L [] := ⟨delAll_nil L, (fun x hx => by cases hx), List.Pairwise.nil⟩
def opx (o : OpA) : Cx := ⟨o.p, o.v, o.c, o.k, rulesC o.k⟩
theorem TkI.take {rooms : List Int} {L0 L T : List Cx} (h : TkI L0 L T) (o : OpA) (he : chkN rooms L o.p o.v o.c o.k = 0) : TkI L0 (takeN rooms L o.p o.v o.c o.k) (T ++ [opx o]) := by
  have hn := (chkN_zero he).2.1
  have hT : takeN rooms L o.p o.v o.c o.k = insC L (opx o) := by unfold takeN; rw [if_pos he]; rfl
  have hk : ∀ y ∈ L, keyX o.p o.v o.c y = false := fun y hy => by
    cases q : keyX o.p o.v o.c y with
    | false => rfl
    | true => exact absurd (keyX_iff.1 q) (findC_none.1 hn y hy)
  rw [hT]
  refine ⟨by rw [delAll_ins (x := opx o) hk, h.back], ?_, ?_⟩
  · intro x hx
    rcases List.mem_append.1 hx with hx | hx
    · exact mem_insC.2 (.inr (h.mem x hx))
    · rw [List.mem_singleton.1 hx]; exact mem_insC.2 (.inl rfl)
  · refine List.pairwise_append.2 ⟨h.one, List.pairwise_singleton .., fun x hx y hy => ?_⟩
    rw [List.mem_singleton.1 hy]
    intro e
    have := hk x (h.mem x hx)
    rw [keyX_iff.2 (show x.p = o.p ∧ x.v = o.v ∧ x.c = o.c from e)] at this
    cases this
theorem TkI.keep {rooms : List Int} {L0 L T : List Cx} (h : TkI L0 L T) (p v c : Int) (k : Con) (he : chkN rooms L p v c k ≠ 0) : TkI L0 (takeN rooms L p v c k) T := by
  rw [show takeN rooms L p v c k = L by unfold takeN; rw [if_neg he]]; exact h
theorem TkI.there {L0 L T : List Cx} (h : TkI L0 L T) {j : Nat} {y : Cx} (hy : T[j]? = some y) : (findC (delAll L (T.take j)) y.p y.v y.c).isSome = true := by
  unfold findC
  rw [List.find?_isSome]
  refine ⟨y, ?_, keyX_iff.2 ⟨rfl, rfl, rfl⟩⟩
  unfold delAll
  rw [List.mem_filter]
  refine ⟨h.mem y (List.mem_of_getElem? hy), ?_⟩
  rw [List.all_eq_true]
  intro z hz
  obtain ⟨i, hi, he⟩ := List.getElem_of_mem hz
  rw [List.length_take] at hi
  have hz' : T[i]? = some z := by rw [List.getElem_take] at he; rw [List.getElem?_eq_getElem (by omega), he]
  have := keyX_other h.one hy hz' (keyX_iff.2 ⟨rfl, rfl, rfl⟩) (by omega)
  cases q : keyX z.p z.v z.c y with
  | false => rfl
  | true =>
    have e := keyX_iff.1 q
    rw [keyX_iff.2 ⟨e.1.symm, e.2.1.symm, e.2.2.symm⟩] at this
    cases this
theorem del_gone (L : List Cx) (p v c : Int) : findC (delC L p v c) p v c = none := findC_none.2 fun x hx e => by
  unfold delC at hx
  have := (List.mem_filter.1 hx).2
  rw [keyX_iff.2 e] at this
  cases this
theorem del_twice (L : List Cx) (p v c : Int) : delC (delC L p v c) p v c = delC L p v c := delC_none (del_gone L p v c)
theorem delAll_next {L T : List Cx} {j : Nat} {y : Cx} (hy : T[j]? = some y) : delC (delC (delAll L (T.take j)) y.p y.v y.c) y.p y.v y.c = delAll L (T.take (j + 1)) := by
  rw [del_twice, List.take_add_one, hy, Option.toList_some, delAll_snoc]
end Go.Proofs.YthchmlidobgkoaaGreat
end

section
/- Layer 20, plain: when a connection is taken, and what then is there. -/
set_option linter.unusedVariables false
set_option linter.unusedSimpArgs false
namespace Go.Proofs.YthchmlidobgkoaaGreat
open Go.Vc Go.RowKit
/-- What a connection that was taken leaves. -/
theorem taken {rooms : List Int} {L : List Cx} {p v c : Int} {k : Con} (h : LI rooms L) (h0 : chkN rooms L p v c k = 0) : (takeN rooms L p v c k).length = L.length + 1 ∧ leftN rooms (takeN rooms L p v c k) p = leftN rooms L p - needC k ∧ (findC (takeN rooms L p v c k) p v c).isSome = true ∧ conN (takeN rooms L p v c k) p v c = k ∧ chkN rooms (takeN rooms L p v c k) p v c k = 35 := by
  have hI := h.take p v c k
  obtain ⟨h1, h2, h3, h4⟩ := chkN_zero h0
  obtain ⟨a1, a2, a3, a4⟩ := wrongN_zero h1
  have e : takeN rooms L p v c k = insC L ⟨p, v, c, k, rulesC k⟩ := by unfold takeN; rw [if_pos h0]
  rw [e] at hI ⊢
  have hf : findC (insC L ⟨p, v, c, k, rulesC k⟩) p v c = some ⟨p, v, c, k, rulesC k⟩ := findC_mem (x := ⟨p, v, c, k, rulesC k⟩) hI.one (mem_insC.2 (.inl rfl))
  refine ⟨len_insC _ _, ?_, by rw [hf]; rfl, by unfold conN; rw [hf], ?_⟩
  · unfold leftN
    have e2 := usdL_ins L ⟨p, v, c, k, rulesC k⟩ p
    rw [if_pos rfl] at e2
    dsimp only at e2
    rw [if_pos a1, if_pos a1, e2]; omega
  · unfold chkN
    rw [if_pos h1, hf]; rfl
theorem kept {rooms : List Int} {L : List Cx} {p v c : Int} {k : Con} (h0 : ¬ chkN rooms L p v c k = 0) : takeN rooms L p v c k = L := by unfold takeN; rw [if_neg h0]
end Go.Proofs.YthchmlidobgkoaaGreat
end

section
/- Layer 20: is a node the document's? -/
set_option linter.unusedVariables false
set_option linter.unusedSimpArgs false
set_option maxRecDepth 100000
set_option maxHeartbeats 4000000
namespace Go.Proofs.YthchmlidobgkoaaGreat
open Go.Vc Go.RowKit
theorem TDagaa {P : Prop} (h : P := by first | exact ⟨⟨_, rfl⟩, ⟨_, rfl⟩, ⟨_, rfl⟩, ⟨_, rfl⟩, ⟨_, rfl⟩, ⟨_, rfl⟩, trivial⟩ | trivial) : P := h

theorem used_sum {rooms : List Int} {L : List Cx} (h : LI rooms L) (p : Int) : usedN rooms L p = usdL L p := by
  unfold usedN
  by_cases hp : 0 ≤ p ∧ p < rooms.length
  · rw [if_pos hp]
  · rw [if_neg hp]
    have : ∀ M : List Cx, (∀ x ∈ M, ¬ x.p = p) → usdL M p = 0 := by
      intro M
      induction M with
      | nil => intro _; rfl
      | cons x M ih => intro hM; simp only [usdL]; rw [if_neg (hM x (List.mem_cons_self ..)), ih fun y hy => hM y (List.mem_cons_of_mem _ hy)]; rfl
    exact (this L fun x hx e => hp (by have := (h.key x hx).1; rw [e] at this; exact this)).symm
theorem con_at {rooms : List Int} {l : List Dx} (h : LI rooms (l.map Dx.x)) {i : Nat} {d : Dx} (hd : l[i]? = some d) : findC (l.map Dx.x) d.x.p d.x.v d.x.c = some d.x := findC_mem h.one (List.mem_map_of_mem (List.mem_of_getElem? hd))
theorem same_any (nd lo : Nat) (X : Nat → Prop) (n nw lo2 : Nat) (rooms : List Int) (L9 : List Cx) (l : List Dx) (w : World) (h : NdP w nd X lo rooms L9 n) (hst : L9.map stc = (l.map Dx.x).map stc) (hR : Dv w nw lo2 rooms l) (hli : LI rooms (l.map Dx.x)) :
  CV Tryz.prog 18 #[.pointer (some ⟨nd, 0, none⟩), .pointer (some ⟨nw, 0, none⟩)] w (fun x w1 => x = .bool true ∧ Step No w w1) := by
 have hS : Step No w w := Step.refl _ _
 have hlm : (l.map Dx.x).length = l.length := List.length_map ..
 obtain ⟨rA, rc, A, ca, rl, rh, hi, ho, hrc, hcn, hrh, hhi, hrw, hv⟩ := hR
 have hrv : Sl w rh rA (iL .i64 rooms) := Sl2.sl hrw
 have hm : l.length ≤ 64 := by have h9 := hli.len; rw [List.length_map] at h9; exact h9
 refine CV_enter Tryz.f18 _ 84 [(0, .pointer (some ⟨nd, 0, none⟩)), (1, .pointer (some ⟨nw, 0, none⟩))] Tryz.func18 rfl rfl (by kernel_rfl) rfl ?_
 refine VC_seq ?_
 refine VC_region ?_
 refine VL_pure 1 [0, 1] [(0, .pointer (some ⟨nd, 0, none⟩)), (1, .pointer (some ⟨nw, 0, none⟩))] (by kernel_rfl) rfl ?_
 refine VL_end (by kernel_rfl) ?_
 refine VQ_next ?_
 refine VC_seq ?_
 refine VC_region ?_
 refine VL_pure 1 [0, 1, 10] [(0, .pointer (some ⟨nd, 0, none⟩)), (1, .pointer (some ⟨nw, 0, none⟩)), (10, .pointer (some ⟨nd, 0, none⟩))] (by kernel_rfl) rfl ?_
 refine VL_call (d := 11) (f := 47) (args := #[.pointer (some ⟨nd, 0, none⟩)]) (by kernel_rfl) (by kernel_rfl) (by kernel_rfl) Tryz.call47 ((keys_any h).mono (fun x w1 h9 => by rw [st_len hst, st_keyc hst (enc := keyc) (fun _ => rfl)] at h9; exact h9)) ?_
 rintro _ w1 ⟨A1, n1, c1, rfl, hlhK1, hK1, hc1⟩
 replace hS := Step.trans hS hc1
 replace h := NdP.no h hc1
 replace ho := ho.no hc1
 replace hv := hv.step hc1 (fun k hk1 hk2 hF => hF)
 replace hrv := hrv.no hc1
 replace hhi := Nat.le_trans hhi (hc1).size
 replace hrh := Nat.le_trans hrh (hc1).size
 have hubhK1 := hK1.ub
 have hszhK1 := Nat.le_refl w1.heap.size
 refine VL_pure 3 [0, 1, 5] [(0, .pointer (some ⟨nd, 0, none⟩)), (1, .pointer (some ⟨nw, 0, none⟩)), (5, .slice A1 n1 c1)] (by kernel_rfl) rfl ?_
 refine VL_end (by kernel_rfl) ?_
 refine VQ_next ?_
 refine VC_seq ?_
 refine VC_seq ?_
 refine VC_region ?_
 refine VL_pure 5 [0, 1, 5, 13, 16] [(0, .pointer (some ⟨nd, 0, none⟩)), (1, .pointer (some ⟨nw, 0, none⟩)), (5, .slice A1 n1 c1), (13, .int .i64 ((n1 : Nat) : Int)), (16, .pointer (some ⟨nw, 1, none⟩))] (by kernel_rfl) rfl ?_
 refine VL_load (d := 17) (t := 53) (a := ⟨nw, 1, none⟩) (v := .slice A l.length ca) (by kernel_rfl) (by kernel_rfl) (Loads.own1 ho (by kernel_rfl) (by rfl)) ?_
 refine VL_pure 8 [0, 1, 5, 19] [(0, .pointer (some ⟨nd, 0, none⟩)), (1, .pointer (some ⟨nw, 0, none⟩)), (5, .slice A1 n1 c1), (19, .bool (((n1 : Nat) : Int) != ((l.length : Nat) : Int)))] (by kernel_rfl) rfl ?_
 refine VL_end (by kernel_rfl) ?_
 refine VQ_next ?_
 refine VC_is (b := ((n1 : Nat) : Int) != ((l.length : Nat) : Int)) false (by kernel_rfl) (by rw [bne_eq_false_iff_eq]; omega) ?_
 refine VC_ite_false ?_
 refine VC_skip ?_
 refine VQ_next ?_
 refine VC_seq ?_
 refine VC_seq ?_
 refine VC_region ?_
 refine VL_pure 3 [0, 1, 5, 21, 22] [(0, .pointer (some ⟨nd, 0, none⟩)), (1, .pointer (some ⟨nw, 0, none⟩)), (5, .slice A1 n1 c1), (21, .int .i64 ((n1 : Nat) : Int)), (22, .int .i64 0)] (by kernel_rfl) rfl ?_
 refine VL_end (by kernel_rfl) ?_
 refine VQ_next ?_
 refine VC_block ?_
 refine VC_loop (σ := Nat) (fun σs => [(0, .pointer (some ⟨nd, 0, none⟩)), (1, .pointer (some ⟨nw, 0, none⟩)), (5, .slice A1 n1 c1), (21, .int .i64 ((n1 : Nat) : Int)), (22, .int .i64 ((σs : Nat) : Int))]) (fun σs wp => σs ≤ l.length ∧ (Step No w wp) ∧ (NdP wp nd X lo rooms L9 n) ∧ (Own wp nw #[.slice rA rooms.length rc, .slice A l.length ca] 55) ∧ (Sl2 wp lo2 hi A (flat dxc l)) ∧ (Sl wp rh rA (iL .i64 rooms)) ∧ (hi ≤ wp.heap.size) ∧ (rh ≤ wp.heap.size) ∧ (RwS wp 3 w.heap.size 30 A1 n1 c1 (flat keyc (l.map Dx.x))) ∧ (w1.heap.size ≤ wp.heap.size)) (fun σs wp => l.length - σs) 0 ⟨rfl, rfl, rfl, rfl, rfl, trivial⟩ ?_ ?_
 ·exact ⟨Nat.zero_le _, hS, h, ho, hv, hrv, hhi, hrh, hK1, hszhK1⟩
 rintro jS wp ⟨hj0, hS, h, ho, hv, hrv, hhi, hrh, hK1, hszhK1⟩
 try dsimp only at hj0 hS h ho hv hrv hhi hrh hK1 hszhK1 ⊢
 refine VC_seq ?_
 refine VC_region ?_
 refine VL_pure 1 [0, 1, 5, 21, 22, 23] [(0, .pointer (some ⟨nd, 0, none⟩)), (1, .pointer (some ⟨nw, 0, none⟩)), (5, .slice A1 n1 c1), (21, .int .i64 ((n1 : Nat) : Int)), (22, .int .i64 ((jS : Nat) : Int)), (23, .bool (decide (((jS : Nat) : Int) < ((n1 : Nat) : Int))))] (by kernel_rfl) rfl ?_
 refine VL_end (by kernel_rfl) ?_
 refine VQ_next ?_
 refine VC_seq ?_
 refine VC_dec (((jS : Nat) : Int) < ((n1 : Nat) : Int)) (by kernel_rfl) (fun h1 => ?_) (fun h1 => ?_)
 ·refine VC_skip ?_
  refine VQ_next ?_
  refine VC_seq ?_
  refine VC_block ?_
  refine VC_seq ?_
  refine VC_region ?_
  refine VL_pure 2 [0, 1, 5, 21, 22, 6] [(0, .pointer (some ⟨nd, 0, none⟩)), (1, .pointer (some ⟨nw, 0, none⟩)), (5, .slice A1 n1 c1), (21, .int .i64 ((n1 : Nat) : Int)), (22, .int .i64 ((jS : Nat) : Int)), (6, .int .i64 ((jS : Nat) : Int))] (by kernel_rfl) rfl ?_
  refine VL_end (by kernel_rfl) ?_
  refine VQ_next ?_
  refine VC_seq ?_
  obtain ⟨sb1, so1, rfl, hlbsb1⟩ := (Sl2.sl hv).open (by first | (rw [flat_len dxc_len]; omega) | omega)
  obtain ⟨g1, cur1, rfl, hgbg1, hglg1, -⟩ := RwS.open hK1 (by first | (rw [flat_len dxc_len]; omega) | omega)
  refine VC_region ?_
  refine VL_pure 3 [0, 1, 5, 21, 22, 6, 26, 27, 28] [(0, .pointer (some ⟨nd, 0, none⟩)), (1, .pointer (some ⟨nw, 0, none⟩)), (5, .slice (some ⟨g1, 0, none⟩) n1 c1), (21, .int .i64 ((n1 : Nat) : Int)), (22, .int .i64 ((jS : Nat) : Int)), (6, .int .i64 ((jS : Nat) : Int)), (26, .pointer (some ⟨nd, 0, none⟩)), (27, .slice (some ⟨g1, 0, none⟩) n1 c1), (28, .int .i64 ((jS : Nat) : Int))] (by kernel_rfl) rfl ?_
  refine VL_index (d := 29) (b := g1) (o := 0) (len := n1) (sz := 3) (m := ((jS : Nat) : Int)) (by kernel_rfl) (by kernel_rfl) jS (by rfl) (by omega) (jS * 3) (by omega) ?_
  obtain ⟨y1, hy1⟩ : ∃ x, l[jS]? = some x := ⟨_, List.getElem?_eq_getElem (by omega)⟩
  have hfy1 := con_at hli hy1
  refine VL_load (d := 30) (t := 30) (a := ⟨g1, jS * 3, none⟩) (v := .agg #[.int .i64 y1.x.p, .int .i64 y1.x.v, .int .i64 y1.x.c]) (by kernel_rfl) (by kernel_rfl) (Sl.flatAgg (sz := 3) (RwS.sl2 hK1).sl keyc_len (show (l.map Dx.x)[jS]? = some y1.x by rw [List.getElem?_map, hy1]; rfl) 0 3 (by kernel_rfl) (by decide) _ (by first | rfl | omega)) ?_
  refine VL_call (d := 31) (f := 48) (args := #[.pointer (some ⟨nd, 0, none⟩), .agg #[.int .i64 y1.x.p, .int .i64 y1.x.v, .int .i64 y1.x.c]]) (by kernel_rfl) (by kernel_rfl) (by kernel_rfl) Tryz.call48 ((ncontract h y1.x.p y1.x.v y1.x.c).mono (fun x w1 h9 => by rw [st_con hst, st_some hst] at h9; unfold conN at h9; rw [hfy1] at h9; exact h9)) ?_
  rintro _ w2 ⟨rfl, hc2⟩
  replace hS := Step.trans hS hc2
  replace h := NdP.no h hc2
  replace ho := ho.no hc2
  replace hv := hv.step hc2 (fun k hk1 hk2 hF => hF)
  replace hrv := hrv.no hc2
  replace hhi := Nat.le_trans hhi (hc2).size
  replace hrh := Nat.le_trans hrh (hc2).size
  replace hK1 := hK1.no hc2
  replace hszhK1 := Nat.le_trans hszhK1 (hc2).size
  replace hglg1 := Nat.lt_of_lt_of_le hglg1 (hc2).size
  refine VL_pure 9 [0, 1, 5, 21, 22, 6, 32, 33] [(0, .pointer (some ⟨nd, 0, none⟩)), (1, .pointer (some ⟨nw, 0, none⟩)), (5, .slice (some ⟨g1, 0, none⟩) n1 c1), (21, .int .i64 ((n1 : Nat) : Int)), (22, .int .i64 ((jS : Nat) : Int)), (6, .int .i64 ((jS : Nat) : Int)), (32, .agg #[.int .i64 y1.x.k.kind, .int .i64 y1.x.k.peak, .int .i64 y1.x.k.early, .int .i64 y1.x.k.whole, .int .i64 y1.x.k.burst, .int .i64 y1.x.k.least]), (33, .bool true)] (by kernel_rfl) rfl ?_
  have hzs3 := hS.size
  have hzl6 := ho.lt
  have hzk1 := hhi
  have hzk2 := hrh
  have hzk5 := hglg1
  refine VL_box (d := 7) (t := 32) (c := #[.int .i64 0, .int .i64 0, .int .i64 0, .int .i64 0, .int .i64 0, .int .i64 0]) (by kernel_rfl) (by kernel_rfl) ?_
  intro b1 w3 hn1
  replace hS := Step.trans hS (hn1.step No)
  replace h := NdP.no h (hn1.step No)
  replace ho := ho.no (hn1.step No)
  replace hv := hv.step (hn1.step No) (fun k hk1 hk2 hF => hF)
  replace hrv := hrv.no (hn1.step No)
  replace hhi := Nat.le_trans hhi (hn1.step No).size
  replace hrh := Nat.le_trans hrh (hn1.step No).size
  replace hK1 := hK1.no (hn1.step No)
  replace hszhK1 := Nat.le_trans hszhK1 (hn1.step No).size
  have ho1 := hn1.own
  have hzhn1 := hn1.size
  have hqhn1 := hn1.eqb
  refine VL_store (b := b1) (o := 0) (vs := [.int .i64 y1.x.k.kind, .int .i64 y1.x.k.peak, .int .i64 y1.x.k.early, .int .i64 y1.x.k.whole, .int .i64 y1.x.k.burst, .int .i64 y1.x.k.least]) (by kernel_rfl) (by kernel_rfl) ho1 (Nat.le_of_ble_eq_true (by kernel_rfl)) ?_
  intro w4 hw1
  replace hS := Step.transNew hS hw1.step (fun _ _ _ => by omega)
  replace h := NdP.blk h ho1 (by decide) hw1.step
  replace ho := ho.step hw1.step (show ¬ nw = b1 by omega)
  replace hv := hv.step hw1.step (fun k hk1 hk2 (hF : k = b1) => by omega)
  replace hrv := hrv.step hw1.step (fun k hk (hF : k = b1) => by omega)
  replace hhi := Nat.le_trans hhi (hw1.step).size
  replace hrh := Nat.le_trans hrh (hw1.step).size
  replace hK1 := hK1.keepG hw1.step (show ¬ g1 = b1 by omega)
  replace hszhK1 := Nat.le_trans hszhK1 (hw1.step).size
  have ho2 : Own w4 b1 #[.int .i64 y1.x.k.kind, .int .i64 y1.x.k.peak, .int .i64 y1.x.k.early, .int .i64 y1.x.k.whole, .int .i64 y1.x.k.burst, .int .i64 y1.x.k.least] 32 := Own.cast hw1.own (by kernel_rfl)
  have hzhw1 := hw1.same
  refine VL_pure 12 [0, 1, 5, 21, 22, 6, 7, 8] [(0, .pointer (some ⟨nd, 0, none⟩)), (1, .pointer (some ⟨nw, 0, none⟩)), (5, .slice (some ⟨g1, 0, none⟩) n1 c1), (21, .int .i64 ((n1 : Nat) : Int)), (22, .int .i64 ((jS : Nat) : Int)), (6, .int .i64 ((jS : Nat) : Int)), (7, .pointer (some ⟨b1, 0, none⟩)), (8, .bool true)] (by kernel_rfl) rfl ?_
  refine VL_end (by kernel_rfl) ?_
  refine VQ_next ?_
  refine VC_seq ?_
  have hs1 := drew_step w4
  have hs1z : w4.heap.size = w4.drew.heap.size := rfl
  refine VC_text [[], [], [0, 1], [0, 1, 2], [], [4], [4, 5], [4, 5, 6], [], [4, 5, 6, 7, 8], [4, 5, 6, 7, 8, 9], [4, 5, 6, 7, 8, 9, 10], [0, 1, 2, 3, 4, 5, 6, 7, 8, 9, 10, 11], [0, 1, 2, 3, 4, 5, 6, 7, 8, 9, 10, 11, 12], [0, 1, 2, 3, 4, 5, 6, 7, 8, 9, 10, 11, 12, 13], [0, 1, 2, 3, 4, 5, 6, 7, 8, 9, 10, 11, 12, 13, 14], [0, 1, 2, 3, 4, 5, 6, 7, 8, 9, 10, 11, 12, 13, 14, 15], [0, 1, 2, 3, 4, 5, 6, 7, 8, 9, 10, 11, 12, 13, 14, 15, 16], [0, 1, 2, 3, 4, 5, 6, 7, 8, 9, 10, 11, 12, 13, 14, 15, 16, 17], [0, 1, 2, 3, 4, 5, 6, 7, 8, 9, 10, 11, 12, 13, 14, 15, 16, 17], [0, 1, 2, 3, 4, 5, 6, 7, 8, 9, 10, 11, 12, 13, 14, 15, 16, 17, 19], [0, 1, 2, 3, 4, 5, 6, 7, 8, 9, 10, 11, 12, 13, 14, 15, 16, 17, 19, 20], [0, 1, 2, 3, 4, 5, 6, 7, 8, 9, 10, 11, 12, 13, 14, 15, 16, 17, 19, 20, 21], [0, 1, 2, 3, 4, 5, 6, 7, 8, 9, 10, 11, 12, 13, 14, 15, 16, 17], [0, 1, 2, 3, 4, 5, 6, 7, 8, 9, 10, 11, 12, 13, 14, 15, 16, 17, 19, 20, 21, 22, 23], [0, 1, 2, 3, 4, 5, 6, 7, 8, 9, 10, 11, 12, 13, 14, 15, 16, 17, 19, 20, 21, 22, 23, 24], [0, 1, 2, 3, 4, 5, 6, 7, 8, 9, 10, 11, 12, 13, 14, 15, 16, 17, 19, 20, 21, 22, 23, 24, 25], [0, 1, 2, 3, 4, 5, 6, 7, 8, 9, 10, 11, 12, 13, 14, 15, 16, 17, 18, 19, 20, 21, 22, 23, 24, 25, 26], [0, 1, 2, 3, 4, 5, 6, 7, 8, 9, 10, 11, 12, 13, 14, 15, 16, 17, 18, 19, 20, 21, 22, 23, 24, 25, 26, 27]] 27 (fun x y => Step (fun k => w4.heap.size ≤ k) x y) [] [0, 1, 2, 3, 4, 5, 6, 7, 8, 9, 10, 11, 12, 13, 14, 15, 16, 17, 18, 19, 20, 21, 22, 23, 24, 25, 26] (by kernel_rfl) (by kernel_rfl) (by kernel_rfl) (by kernel_rfl) (fun x => Step.refl _ x) (fun h k => Step.trans h k) Step.weak ?_
  generalize w4.drew = w5 at hs1 hs1z ⊢
  replace hS := Step.trans hS hs1
  replace h := NdP.no h hs1
  replace ho := ho.no hs1
  replace hv := hv.step hs1 (fun k hk1 hk2 hF => hF)
  replace hrv := hrv.no hs1
  replace hhi := Nat.le_trans hhi (hs1).size
  replace hrh := Nat.le_trans hrh (hs1).size
  replace hK1 := hK1.no hs1
  replace hszhK1 := Nat.le_trans hszhK1 (hs1).size
  replace ho2 := ho2.no hs1
  refine VT_pures 2 (kn' := [(1, .int .i64 ((jS : Nat) : Int)), (0, .slice (some ⟨g1, 0, none⟩) n1 c1)]) (by kernel_rfl) ?_
  refine VT_index (d := 36) (b := g1) (o := 0) (len := n1) (sz := 3) (mm := ((jS : Nat) : Int)) (by kernel_rfl) (by kernel_rfl) jS (by rfl) (by omega) (jS * 3) (by omega) ?_
  refine VT_load (d := 37) (t := 30) (a := ⟨g1, jS * 3, none⟩) (v := .agg #[.int .i64 y1.x.p, .int .i64 y1.x.v, .int .i64 y1.x.c]) (by kernel_rfl) (by kernel_rfl) ?_ ?_
  ·intro w6 hr1
   replace hK1 := hK1.keepG hr1 (by (try simp only); omega)
   exact (Sl.flatAgg (sz := 3) (RwS.sl2 hK1).sl keyc_len (show (l.map Dx.x)[jS]? = some y1.x by rw [List.getElem?_map, hy1]; rfl) 0 3 (by kernel_rfl) (by decide) _ (by first | rfl | omega))
  refine VT_pures 3 (kn' := [(6, .pointer (some ⟨nw, 1, none⟩)), (5, .pointer (some ⟨nw, 0, none⟩)), (4, .pointer (some ⟨nw, 0, none⟩)), (3, .agg #[.int .i64 y1.x.p, .int .i64 y1.x.v, .int .i64 y1.x.c]), (2, .pointer (some ⟨g1, jS * 3, none⟩)), (1, .int .i64 ((jS : Nat) : Int)), (0, .slice (some ⟨g1, 0, none⟩) n1 c1)]) (by kernel_rfl) ?_
  refine VT_load (d := 41) (t := 53) (a := ⟨nw, 1, none⟩) (v := .slice (some ⟨sb1, so1, none⟩) l.length ca) (by kernel_rfl) (by kernel_rfl) ?_ ?_
  ·intro w7 hr2
   replace ho := ho.step hr2 (by (try simp only); omega)
   exact (Loads.own1 ho (by kernel_rfl) (by rfl))
  refine VT_pures 1 (kn' := [(8, .int .i64 ((jS : Nat) : Int)), (7, .slice (some ⟨sb1, so1, none⟩) l.length ca), (6, .pointer (some ⟨nw, 1, none⟩)), (5, .pointer (some ⟨nw, 0, none⟩)), (4, .pointer (some ⟨nw, 0, none⟩)), (3, .agg #[.int .i64 y1.x.p, .int .i64 y1.x.v, .int .i64 y1.x.c]), (2, .pointer (some ⟨g1, jS * 3, none⟩)), (1, .int .i64 ((jS : Nat) : Int)), (0, .slice (some ⟨g1, 0, none⟩) n1 c1)]) (by kernel_rfl) ?_
  refine VT_index (d := 43) (b := sb1) (o := so1) (len := l.length) (sz := 10) (mm := ((jS : Nat) : Int)) (by kernel_rfl) (by kernel_rfl) jS (by rfl) (by omega) (so1 + jS * 10) (by omega) ?_
  refine VT_pures 1 (kn' := [(10, .pointer (some ⟨sb1, so1 + jS * 10, none⟩)), (9, .pointer (some ⟨sb1, so1 + jS * 10, none⟩)), (8, .int .i64 ((jS : Nat) : Int)), (7, .slice (some ⟨sb1, so1, none⟩) l.length ca), (6, .pointer (some ⟨nw, 1, none⟩)), (5, .pointer (some ⟨nw, 0, none⟩)), (4, .pointer (some ⟨nw, 0, none⟩)), (3, .agg #[.int .i64 y1.x.p, .int .i64 y1.x.v, .int .i64 y1.x.c]), (2, .pointer (some ⟨g1, jS * 3, none⟩)), (1, .int .i64 ((jS : Nat) : Int)), (0, .slice (some ⟨g1, 0, none⟩) n1 c1)]) (by kernel_rfl) ?_
  refine VT_load (d := 45) (t := 30) (a := ⟨sb1, so1 + jS * 10, none⟩) (v := .agg #[.int .i64 y1.x.p, .int .i64 y1.x.v, .int .i64 y1.x.c]) (by kernel_rfl) (by kernel_rfl) ?_ ?_
  ·intro w8 hr3
   replace hv := hv.step hr3 (fun k hk1 hk2 hG => by (try simp only at hG); omega)
   exact (Sl.flatAgg (sz := 10) (Sl2.sl hv) dxc_len hy1 0 3 (by kernel_rfl) (by decide) _ (by first | rfl | omega))
  refine VT_agEq (d := 46) (dd := 9) (ls := ([.int .i64] ++ [.int .i64] ++ [.int .i64] ++ [])) (pos := false) (t := 30) (xs := #[.int .i64 y1.x.p, .int .i64 y1.x.v, .int .i64 y1.x.c]) (ys := #[.int .i64 y1.x.p, .int .i64 y1.x.v, .int .i64 y1.x.c]) (by kernel_rfl) (by kernel_rfl) (by kernel_rfl) (by kernel_rfl) (by first | exact ⟨⟨_, rfl⟩, ⟨_, rfl⟩, ⟨_, rfl⟩, trivial⟩ | trivial) (by first | exact ⟨⟨_, rfl⟩, ⟨_, rfl⟩, ⟨_, rfl⟩, trivial⟩ | trivial) false (by simp [cellsEq, leafEq]) ?_
  refine VT_pures 5 (kn' := [(17, .bool false), (16, .bool false), (15, .bool false), (14, .bool true), (13, .bool false), (12, .bool false), (11, .agg #[.int .i64 y1.x.p, .int .i64 y1.x.v, .int .i64 y1.x.c]), (10, .pointer (some ⟨sb1, so1 + jS * 10, none⟩)), (9, .pointer (some ⟨sb1, so1 + jS * 10, none⟩)), (8, .int .i64 ((jS : Nat) : Int)), (7, .slice (some ⟨sb1, so1, none⟩) l.length ca), (6, .pointer (some ⟨nw, 1, none⟩)), (5, .pointer (some ⟨nw, 0, none⟩)), (4, .pointer (some ⟨nw, 0, none⟩)), (3, .agg #[.int .i64 y1.x.p, .int .i64 y1.x.v, .int .i64 y1.x.c]), (2, .pointer (some ⟨g1, jS * 3, none⟩)), (1, .int .i64 ((jS : Nat) : Int)), (0, .slice (some ⟨g1, 0, none⟩) n1 c1)]) (by kernel_rfl) ?_
  refine VT_load (d := 52) (t := 32) (a := ⟨b1, 0, none⟩) (v := .agg #[.int .i64 y1.x.k.kind, .int .i64 y1.x.k.peak, .int .i64 y1.x.k.early, .int .i64 y1.x.k.whole, .int .i64 y1.x.k.burst, .int .i64 y1.x.k.least]) (by kernel_rfl) (by kernel_rfl) ?_ ?_
  ·intro w9 hr4
   replace ho2 := ho2.step hr4 (by (try simp only); omega)
   exact (Loads.ownL ho2 (n := 6) (by kernel_rfl) (by kernel_rfl) (by kernel_rfl))
  refine VT_pures 3 (kn' := [(21, .pointer (some ⟨nw, 1, none⟩)), (20, .pointer (some ⟨nw, 0, none⟩)), (19, .pointer (some ⟨nw, 0, none⟩)), (18, .agg #[.int .i64 y1.x.k.kind, .int .i64 y1.x.k.peak, .int .i64 y1.x.k.early, .int .i64 y1.x.k.whole, .int .i64 y1.x.k.burst, .int .i64 y1.x.k.least]), (17, .bool false), (16, .bool false), (15, .bool false), (14, .bool true), (13, .bool false), (12, .bool false), (11, .agg #[.int .i64 y1.x.p, .int .i64 y1.x.v, .int .i64 y1.x.c]), (10, .pointer (some ⟨sb1, so1 + jS * 10, none⟩)), (9, .pointer (some ⟨sb1, so1 + jS * 10, none⟩)), (8, .int .i64 ((jS : Nat) : Int)), (7, .slice (some ⟨sb1, so1, none⟩) l.length ca), (6, .pointer (some ⟨nw, 1, none⟩)), (5, .pointer (some ⟨nw, 0, none⟩)), (4, .pointer (some ⟨nw, 0, none⟩)), (3, .agg #[.int .i64 y1.x.p, .int .i64 y1.x.v, .int .i64 y1.x.c]), (2, .pointer (some ⟨g1, jS * 3, none⟩)), (1, .int .i64 ((jS : Nat) : Int)), (0, .slice (some ⟨g1, 0, none⟩) n1 c1)]) (by kernel_rfl) ?_
  refine VT_load (d := 56) (t := 53) (a := ⟨nw, 1, none⟩) (v := .slice (some ⟨sb1, so1, none⟩) l.length ca) (by kernel_rfl) (by kernel_rfl) ?_ ?_
  ·intro w10 hr5
   replace ho := ho.step hr5 (by (try simp only); omega)
   exact (Loads.own1 ho (by kernel_rfl) (by rfl))
  refine VT_pures 1 (kn' := [(23, .int .i64 ((jS : Nat) : Int)), (22, .slice (some ⟨sb1, so1, none⟩) l.length ca), (21, .pointer (some ⟨nw, 1, none⟩)), (20, .pointer (some ⟨nw, 0, none⟩)), (19, .pointer (some ⟨nw, 0, none⟩)), (18, .agg #[.int .i64 y1.x.k.kind, .int .i64 y1.x.k.peak, .int .i64 y1.x.k.early, .int .i64 y1.x.k.whole, .int .i64 y1.x.k.burst, .int .i64 y1.x.k.least]), (17, .bool false), (16, .bool false), (15, .bool false), (14, .bool true), (13, .bool false), (12, .bool false), (11, .agg #[.int .i64 y1.x.p, .int .i64 y1.x.v, .int .i64 y1.x.c]), (10, .pointer (some ⟨sb1, so1 + jS * 10, none⟩)), (9, .pointer (some ⟨sb1, so1 + jS * 10, none⟩)), (8, .int .i64 ((jS : Nat) : Int)), (7, .slice (some ⟨sb1, so1, none⟩) l.length ca), (6, .pointer (some ⟨nw, 1, none⟩)), (5, .pointer (some ⟨nw, 0, none⟩)), (4, .pointer (some ⟨nw, 0, none⟩)), (3, .agg #[.int .i64 y1.x.p, .int .i64 y1.x.v, .int .i64 y1.x.c]), (2, .pointer (some ⟨g1, jS * 3, none⟩)), (1, .int .i64 ((jS : Nat) : Int)), (0, .slice (some ⟨g1, 0, none⟩) n1 c1)]) (by kernel_rfl) ?_
  refine VT_index (d := 58) (b := sb1) (o := so1) (len := l.length) (sz := 10) (mm := ((jS : Nat) : Int)) (by kernel_rfl) (by kernel_rfl) jS (by rfl) (by omega) (so1 + jS * 10) (by omega) ?_
  refine VT_pures 1 (kn' := [(25, .pointer (some ⟨sb1, so1 + jS * 10 + 3, none⟩)), (24, .pointer (some ⟨sb1, so1 + jS * 10, none⟩)), (23, .int .i64 ((jS : Nat) : Int)), (22, .slice (some ⟨sb1, so1, none⟩) l.length ca), (21, .pointer (some ⟨nw, 1, none⟩)), (20, .pointer (some ⟨nw, 0, none⟩)), (19, .pointer (some ⟨nw, 0, none⟩)), (18, .agg #[.int .i64 y1.x.k.kind, .int .i64 y1.x.k.peak, .int .i64 y1.x.k.early, .int .i64 y1.x.k.whole, .int .i64 y1.x.k.burst, .int .i64 y1.x.k.least]), (17, .bool false), (16, .bool false), (15, .bool false), (14, .bool true), (13, .bool false), (12, .bool false), (11, .agg #[.int .i64 y1.x.p, .int .i64 y1.x.v, .int .i64 y1.x.c]), (10, .pointer (some ⟨sb1, so1 + jS * 10, none⟩)), (9, .pointer (some ⟨sb1, so1 + jS * 10, none⟩)), (8, .int .i64 ((jS : Nat) : Int)), (7, .slice (some ⟨sb1, so1, none⟩) l.length ca), (6, .pointer (some ⟨nw, 1, none⟩)), (5, .pointer (some ⟨nw, 0, none⟩)), (4, .pointer (some ⟨nw, 0, none⟩)), (3, .agg #[.int .i64 y1.x.p, .int .i64 y1.x.v, .int .i64 y1.x.c]), (2, .pointer (some ⟨g1, jS * 3, none⟩)), (1, .int .i64 ((jS : Nat) : Int)), (0, .slice (some ⟨g1, 0, none⟩) n1 c1)]) (by kernel_rfl) ?_
  refine VT_load (d := 60) (t := 32) (a := ⟨sb1, so1 + jS * 10 + 3, none⟩) (v := .agg #[.int .i64 y1.x.k.kind, .int .i64 y1.x.k.peak, .int .i64 y1.x.k.early, .int .i64 y1.x.k.whole, .int .i64 y1.x.k.burst, .int .i64 y1.x.k.least]) (by kernel_rfl) (by kernel_rfl) ?_ ?_
  ·intro w11 hr6
   replace hv := hv.step hr6 (fun k hk1 hk2 hG => by (try simp only at hG); omega)
   exact (Sl.flatAgg (sz := 10) (Sl2.sl hv) dxc_len hy1 3 6 (by kernel_rfl) (by decide) _ (by first | rfl | omega))
  refine VT_end ?_
  intro w12 hs2
  replace hS := Step.trans hS hs2
  replace h := NdP.no h hs2
  replace ho := ho.no hs2
  replace hv := hv.step hs2 (fun k hk1 hk2 hF => hF)
  replace hrv := hrv.no hs2
  replace hhi := Nat.le_trans hhi (hs2).size
  replace hrh := Nat.le_trans hrh (hs2).size
  replace hK1 := hK1.no hs2
  replace hszhK1 := Nat.le_trans hszhK1 (hs2).size
  refine VL_keep [0, 1, 5, 21, 22, 51, 52, 60] [(0, .pointer (some ⟨nd, 0, none⟩)), (1, .pointer (some ⟨nw, 0, none⟩)), (5, .slice (some ⟨g1, 0, none⟩) n1 c1), (21, .int .i64 ((n1 : Nat) : Int)), (22, .int .i64 ((jS : Nat) : Int)), (51, .bool false), (52, .agg #[.int .i64 y1.x.k.kind, .int .i64 y1.x.k.peak, .int .i64 y1.x.k.early, .int .i64 y1.x.k.whole, .int .i64 y1.x.k.burst, .int .i64 y1.x.k.least]), (60, .agg #[.int .i64 y1.x.k.kind, .int .i64 y1.x.k.peak, .int .i64 y1.x.k.early, .int .i64 y1.x.k.whole, .int .i64 y1.x.k.burst, .int .i64 y1.x.k.least])] (by kernel_rfl) ?_
  refine VL_agEq (d := 61) (dd := 9) (ls := ([.int .i64] ++ [.int .i64] ++ [.int .i64] ++ [.int .i64] ++ [.int .i64] ++ [.int .i64] ++ [])) (pos := false) (t := 32) (xs := #[.int .i64 y1.x.k.kind, .int .i64 y1.x.k.peak, .int .i64 y1.x.k.early, .int .i64 y1.x.k.whole, .int .i64 y1.x.k.burst, .int .i64 y1.x.k.least]) (ys := #[.int .i64 y1.x.k.kind, .int .i64 y1.x.k.peak, .int .i64 y1.x.k.early, .int .i64 y1.x.k.whole, .int .i64 y1.x.k.burst, .int .i64 y1.x.k.least]) (by kernel_rfl) (by kernel_rfl) (by kernel_rfl) (by kernel_rfl) TDagaa TDagaa false (by simp [cellsEq, leafEq]) ?_
  refine VL_pure 29 [0, 1, 5, 21, 22, 62] [(0, .pointer (some ⟨nd, 0, none⟩)), (1, .pointer (some ⟨nw, 0, none⟩)), (5, .slice (some ⟨g1, 0, none⟩) n1 c1), (21, .int .i64 ((n1 : Nat) : Int)), (22, .int .i64 ((jS : Nat) : Int)), (62, .bool false)] (by kernel_rfl) rfl ?_
  refine VL_end (by kernel_rfl) ?_
  refine VQ_next ?_
  refine VC_false (by kernel_rfl) ?_
  refine VC_skip ?_
  refine VQ_block_normal ?_
  refine VQ_next ?_
  refine VC_region ?_
  refine VL_pure 1 [0, 1, 5, 21, 63] [(0, .pointer (some ⟨nd, 0, none⟩)), (1, .pointer (some ⟨nw, 0, none⟩)), (5, .slice (some ⟨g1, 0, none⟩) n1 c1), (21, .int .i64 ((n1 : Nat) : Int)), (63, .int .i64 (IntKind.wrap .i64 (((jS : Nat) : Int) + 1)))] (by kernel_rfl) rfl ?_
  have he1 : IntKind.wrap .i64 (((jS : Nat) : Int) + 1) = ((jS + 1 : Nat) : Int) := (by rw [wrap_i64 _ (by omega) (by omega)]; omega)
  refine VL_eq [(0, .pointer (some ⟨nd, 0, none⟩)), (1, .pointer (some ⟨nw, 0, none⟩)), (5, .slice (some ⟨g1, 0, none⟩) n1 c1), (21, .int .i64 ((n1 : Nat) : Int)), (63, .int .i64 ((jS + 1 : Nat) : Int))] (by rw [he1]) ?_
  refine VL_pure 2 [0, 1, 5, 21, 22] [(0, .pointer (some ⟨nd, 0, none⟩)), (1, .pointer (some ⟨nw, 0, none⟩)), (5, .slice (some ⟨g1, 0, none⟩) n1 c1), (21, .int .i64 ((n1 : Nat) : Int)), (22, .int .i64 ((jS + 1 : Nat) : Int))] (by kernel_rfl) rfl ?_
  refine VL_end (by kernel_rfl) ?_
  refine VQ_again (jS + 1) ⟨rfl, rfl, rfl, rfl, rfl, trivial⟩ ?_ ?_
  ·exact ⟨by omega, hS, h, ho, hv, hrv, hhi, hrh, hK1, hszhK1⟩
  ·(try dsimp only); omega
 ·refine VC_exit ?_
  refine VQ_then_exit ?_
  refine VQ_then_exit ?_
  refine VQ_block_hit ?_
  refine VQ_next ?_
  refine VC_seq ?_
  refine VC_seq ?_
  refine VC_region ?_
  refine VL_pure 1 [0, 1, 9] [(0, .pointer (some ⟨nd, 0, none⟩)), (1, .pointer (some ⟨nw, 0, none⟩)), (9, .int .i64 (-1))] (by kernel_rfl) rfl ?_
  refine VL_end (by kernel_rfl) ?_
  refine VQ_next ?_
  refine VC_block ?_
  refine VC_loop (σ := Int) (fun σs => [(0, .pointer (some ⟨nd, 0, none⟩)), (1, .pointer (some ⟨nw, 0, none⟩)), (9, .int .i64 σs)]) (fun σs wq => -1 ≤ σs ∧ σs ≤ 9 ∧ (Step No w wq) ∧ (NdP wq nd X lo rooms L9 n) ∧ (Own wq nw #[.slice rA rooms.length rc, .slice A l.length ca] 55) ∧ (Sl2 wq lo2 hi A (flat dxc l)) ∧ (Sl wq rh rA (iL .i64 rooms)) ∧ (hi ≤ wq.heap.size) ∧ (rh ≤ wq.heap.size) ∧ (w1.heap.size ≤ wq.heap.size)) (fun σs wq => (9 - σs).toNat) (-1) ⟨rfl, rfl, rfl, trivial⟩ ?_ ?_
  ·exact ⟨by decide, by decide, hS, h, ho, hv, hrv, hhi, hrh, hszhK1⟩
  rintro qS wq ⟨hq0, hq1, hS, h, ho, hv, hrv, hhi, hrh, hszhK1⟩
  try dsimp only at hq0 hq1 hS h ho hv hrv hhi hrh hszhK1 ⊢
  refine VC_seq ?_
  refine VC_seq ?_
  refine VC_region ?_
  refine VL_pure 2 [0, 1, 9, 65] [(0, .pointer (some ⟨nd, 0, none⟩)), (1, .pointer (some ⟨nw, 0, none⟩)), (9, .int .i64 qS), (65, .bool (decide (qS ≤ 8)))] (by kernel_rfl) rfl ?_
  refine VL_end (by kernel_rfl) ?_
  refine VQ_next ?_
  refine VC_dec (qS ≤ 8) (by kernel_rfl) (fun h2 => ?_) (fun h2 => ?_)
  ·refine VC_skip ?_
   refine VQ_next ?_
   refine VC_seq ?_
   refine VC_block ?_
   refine VC_seq ?_
   refine VC_region ?_
   refine VL_pure 2 [0, 1, 9, 68, 69] [(0, .pointer (some ⟨nd, 0, none⟩)), (1, .pointer (some ⟨nw, 0, none⟩)), (9, .int .i64 qS), (68, .pointer (some ⟨nd, 0, none⟩)), (69, .int .i64 qS)] (by kernel_rfl) rfl ?_
   refine VL_call (d := 70) (f := 21) (args := #[.pointer (some ⟨nd, 0, none⟩), .int .i64 qS]) (by kernel_rfl) (by kernel_rfl) (by kernel_rfl) Tryz.call21 ((nleft h qS).mono (fun x w1 h9 => by rw [st_left hst] at h9; exact h9)) ?_
   rintro _ w13 ⟨rfl, hc3⟩
   replace hS := Step.trans hS hc3
   replace h := NdP.no h hc3
   replace ho := ho.no hc3
   replace hv := hv.step hc3 (fun k hk1 hk2 hF => hF)
   replace hrv := hrv.no hc3
   replace hhi := Nat.le_trans hhi (hc3).size
   replace hrh := Nat.le_trans hrh (hc3).size
   replace hszhK1 := Nat.le_trans hszhK1 (hc3).size
   refine VL_pure 5 [0, 1, 9, 70, 71, 72] [(0, .pointer (some ⟨nd, 0, none⟩)), (1, .pointer (some ⟨nw, 0, none⟩)), (9, .int .i64 qS), (70, .int .i64 (leftN rooms (l.map Dx.x) qS)), (71, .pointer (some ⟨nw, 0, none⟩)), (72, .int .i64 qS)] (by kernel_rfl) rfl ?_
   refine VL_call (d := 73) (f := 34) (args := #[.pointer (some ⟨nw, 0, none⟩), .int .i64 qS]) (by kernel_rfl) (by kernel_rfl) (by kernel_rfl) Tryz.call34 (dleft_any nw lo2 rooms l qS _ ⟨_, _, _, _, 0, _, _, ho, hrc, hcn, hrh, hhi, sl_sl2 hrv, hv⟩ hli) ?_
   rintro _ w14 ⟨rfl, hc4⟩
   replace hS := Step.trans hS hc4
   replace h := NdP.no h hc4
   replace ho := ho.no hc4
   replace hv := hv.step hc4 (fun k hk1 hk2 hF => hF)
   replace hrv := hrv.no hc4
   replace hhi := Nat.le_trans hhi (hc4).size
   replace hrh := Nat.le_trans hrh (hc4).size
   replace hszhK1 := Nat.le_trans hszhK1 (hc4).size
   refine VL_pure 8 [0, 1, 9, 75] [(0, .pointer (some ⟨nd, 0, none⟩)), (1, .pointer (some ⟨nw, 0, none⟩)), (9, .int .i64 qS), (75, .bool ((leftN rooms (l.map Dx.x) qS) != (leftN rooms (l.map Dx.x) qS)))] (by kernel_rfl) rfl ?_
   refine VL_known ((leftN rooms (l.map Dx.x) qS) != (leftN rooms (l.map Dx.x) qS)) (fun bV => [(0, .pointer (some ⟨nd, 0, none⟩)), (1, .pointer (some ⟨nw, 0, none⟩)), (9, .int .i64 qS), (75, .bool bV)]) false rfl (by rw [bne_eq_false_iff_eq]) ?_
   refine VL_pure 10 [0, 1, 9, 75, 76, 77] [(0, .pointer (some ⟨nd, 0, none⟩)), (1, .pointer (some ⟨nw, 0, none⟩)), (9, .int .i64 qS), (75, .bool false), (76, .pointer (some ⟨nd, 0, none⟩)), (77, .int .i64 qS)] (by kernel_rfl) rfl ?_
   refine VL_call (d := 78) (f := 20) (args := #[.pointer (some ⟨nd, 0, none⟩), .int .i64 qS]) (by kernel_rfl) (by kernel_rfl) (by kernel_rfl) Tryz.call20 ((nused h qS).mono (fun x w1 h9 => by rw [st_used hst, used_sum hli] at h9; exact h9)) ?_
   rintro _ w15 ⟨rfl, hc5⟩
   replace hS := Step.trans hS hc5
   replace h := NdP.no h hc5
   replace ho := ho.no hc5
   replace hv := hv.step hc5 (fun k hk1 hk2 hF => hF)
   replace hrv := hrv.no hc5
   replace hhi := Nat.le_trans hhi (hc5).size
   replace hrh := Nat.le_trans hrh (hc5).size
   replace hszhK1 := Nat.le_trans hszhK1 (hc5).size
   refine VL_pure 13 [0, 1, 9, 75, 78, 79, 80] [(0, .pointer (some ⟨nd, 0, none⟩)), (1, .pointer (some ⟨nw, 0, none⟩)), (9, .int .i64 qS), (75, .bool false), (78, .int .i64 (usdL (l.map Dx.x) qS)), (79, .pointer (some ⟨nw, 0, none⟩)), (80, .int .i64 qS)] (by kernel_rfl) rfl ?_
   refine VL_call (d := 81) (f := 49) (args := #[.pointer (some ⟨nw, 0, none⟩), .int .i64 qS]) (by kernel_rfl) (by kernel_rfl) (by kernel_rfl) Tryz.call49 (dsum_any nw lo2 rooms l qS _ ⟨_, _, _, _, 0, _, _, ho, hrc, hcn, hrh, hhi, sl_sl2 hrv, hv⟩ hli) ?_
   rintro _ w16 ⟨rfl, hc6⟩
   replace hS := Step.trans hS hc6
   replace h := NdP.no h hc6
   replace ho := ho.no hc6
   replace hv := hv.step hc6 (fun k hk1 hk2 hF => hF)
   replace hrv := hrv.no hc6
   replace hhi := Nat.le_trans hhi (hc6).size
   replace hrh := Nat.le_trans hrh (hc6).size
   replace hszhK1 := Nat.le_trans hszhK1 (hc6).size
   refine VL_pure 16 [0, 1, 9, 83] [(0, .pointer (some ⟨nd, 0, none⟩)), (1, .pointer (some ⟨nw, 0, none⟩)), (9, .int .i64 qS), (83, .bool ((usdL (l.map Dx.x) qS) != (usdL (l.map Dx.x) qS)))] (by kernel_rfl) rfl ?_
   refine VL_end (by kernel_rfl) ?_
   refine VQ_next ?_
   refine VC_is (b := (usdL (l.map Dx.x) qS) != (usdL (l.map Dx.x) qS)) false (by kernel_rfl) (by rw [bne_eq_false_iff_eq]) ?_
   refine VC_ite_false ?_
   refine VC_skip ?_
   refine VQ_block_normal ?_
   refine VQ_next ?_
   refine VC_region ?_
   refine VL_pure 2 [0, 1, 67] [(0, .pointer (some ⟨nd, 0, none⟩)), (1, .pointer (some ⟨nw, 0, none⟩)), (67, .int .i64 (IntKind.wrap .i64 (qS + 1)))] (by kernel_rfl) rfl ?_
   refine VL_eq [(0, .pointer (some ⟨nd, 0, none⟩)), (1, .pointer (some ⟨nw, 0, none⟩)), (67, .int .i64 (qS + 1))] (by rw [wrap_i64 _ (by omega) (by omega)]) ?_
   refine VL_pure 3 [0, 1, 9] [(0, .pointer (some ⟨nd, 0, none⟩)), (1, .pointer (some ⟨nw, 0, none⟩)), (9, .int .i64 (qS + 1))] (by kernel_rfl) rfl ?_
   refine VL_end (by kernel_rfl) ?_
   refine VQ_again (qS + 1) ⟨rfl, rfl, rfl, trivial⟩ ?_ ?_
   ·exact ⟨by omega, by omega, hS, h, ho, hv, hrv, hhi, hrh, hszhK1⟩
   ·(try dsimp only); omega
  ·refine VC_exit ?_
   refine VQ_then_exit ?_
   refine VQ_then_exit ?_
   refine VQ_block_hit ?_
   refine VQ_next ?_
   refine VC_seq ?_
   refine VC_region ?_
   refine VL_pure 1 [4] [(4, .bool true)] (by kernel_rfl) rfl ?_
   refine VL_end (by kernel_rfl) ?_
   refine VQ_next ?_
   refine VC_ret ?_
   refine VQ_ret1 (.bool true) (.inr rfl) rfl rfl ?_
   exact ⟨rfl, hS⟩

end Go.Proofs.YthchmlidobgkoaaGreat
end

section
/- Layer 20: the program's node and the document's side by side: their blocks are apart by their types. -/
set_option linter.unusedVariables false
set_option linter.unusedSimpArgs false
namespace Go.Proofs.YthchmlidobgkoaaGreat
open Go.Vc Go.RowKit
section
variable {w w1 : World} {X Xd : Nat → Prop} {nd nw lo lo2 Bd n : Nat} {rooms rooms2 : List Int} {L L2 : List Cx}
theorem dnt_ty {k : Nat} (h : DNT w k) : tyO w k = 55 + 2 ∨ tyO w k = 67 + 2 ∨ tyO w k = 3 + 2 ∨ tyO w k = 96 + 2 ∨ tyO w k = 100 + 2 ∨ tyO w k = 97 + 2 ∨ tyO w k = 126 + 2 := by
  rcases h with h | h | h | h | h | h | h
  · exact .inl (tyO_tyB h)
  · exact .inr (.inl (tyO_tyB h))
  · exact .inr (.inr (.inl (tyO_tyB h)))
  · exact .inr (.inr (.inr (.inl (tyO_tyB h))))
  · exact .inr (.inr (.inr (.inr (.inl (tyO_tyB h)))))
  · exact .inr (.inr (.inr (.inr (.inr (.inl (tyO_tyB h))))))
  · exact .inr (.inr (.inr (.inr (.inr (.inr (tyO_tyB h))))))
theorem nt_dnt {k : Nat} (h : NT w k) (h' : DNT w k) : False := by
  have h1 := dnt_ty h'
  have h2 := h.2
  omega
theorem DnP.byN (h : DnP w nw Xd lo2 Bd rooms2 L2) (hN : NdP w nd X lo rooms L n) (hs : Step X w w1) : DnP w1 nw Xd lo2 Bd rooms2 L2 := h.step hs fun q hq hX => nt_dnt (hN.nt hX) (h.dnt hq)
theorem NdP.byD (hN : NdP w nd X lo rooms L n) (h : DnP w nw Xd lo2 Bd rooms2 L2) (hs : Step Xd w w1) : NdP w1 nd X lo rooms L n := hN.step hs fun q hq hX => nt_dnt (hN.nt hq) (h.dnt hX)
theorem DnP.nx (h : DnP w nw Xd lo2 Bd rooms2 L2) {b T : Nat} {cs : Array Value} (ho : Own w b cs T) (hT : T ≠ 55 ∧ T ≠ 67 ∧ T ≠ 96 ∧ T ≠ 100 ∧ T ≠ 97 ∧ T ≠ 126) (hI : T = 3 → Bd ≤ b) : ¬ Xd b := by
  intro hb
  have ht := ho.tyB
  rcases h.dnt hb with h9 | h9 | h9 | h9 | h9 | h9 | h9
  · exact tyb_ne ht h9 hT.1 rfl
  · exact tyb_ne ht h9 hT.2.1 rfl
  · have hT2 : T = 3 := Classical.byContradiction fun h8 => tyb_ne ht h9 h8 rfl
    obtain ⟨_, l, rA, rc, A, c, _, hX⟩ := h
    have := hX.up b hb h9
    have := hI hT2
    omega
  · exact tyb_ne ht h9 hT.2.2.1 rfl
  · exact tyb_ne ht h9 hT.2.2.2.1 rfl
  · exact tyb_ne ht h9 hT.2.2.2.2.1 rfl
  · exact tyb_ne ht h9 hT.2.2.2.2.2 rfl
theorem DnP.blk (h : DnP w nw Xd lo2 Bd rooms2 L2) {b T : Nat} {cs : Array Value} (ho : Own w b cs T) (hT : T ≠ 55 ∧ T ≠ 67 ∧ T ≠ 96 ∧ T ≠ 100 ∧ T ≠ 97 ∧ T ≠ 126) (hI : T = 3 → Bd ≤ b) (hs : Step (Just b) w w1) : DnP w1 nw Xd lo2 Bd rooms2 L2 :=
  h.step hs fun q hq e => h.nx ho hT hI (by rw [show q = b from e] at hq; exact hq)
theorem DnP.ltX (h : DnP w nw Xd lo2 Bd rooms2 L2) {k : Nat} (hk : Xd k) : k < w.heap.size := (h.dnt hk).lt
theorem DnP.row {sz base m c T : Nat} {A : Option Addr} {xs : List Value} (h : DnP w nw Xd lo2 Bd rooms2 L2) (hr : RwS w sz base T A m c xs) (hT : T ≠ 55 ∧ T ≠ 67 ∧ T ≠ 96 ∧ T ≠ 100 ∧ T ≠ 97 ∧ T ≠ 126 ∧ T ≠ 3) (hs : Step (ownB A) w w1) : DnP w1 nw Xd lo2 Bd rooms2 L2 :=
  h.step hs fun q hq ho => by
    have ht := RwS.tyB hr ho
    rcases h.dnt hq with h9 | h9 | h9 | h9 | h9 | h9 | h9
    · exact tyb_ne ht h9 hT.1 rfl
    · exact tyb_ne ht h9 hT.2.1 rfl
    · exact tyb_ne ht h9 hT.2.2.2.2.2.2 rfl
    · exact tyb_ne ht h9 hT.2.2.1 rfl
    · exact tyb_ne ht h9 hT.2.2.2.1 rfl
    · exact tyb_ne ht h9 hT.2.2.2.2.1 rfl
    · exact tyb_ne ht h9 hT.2.2.2.2.2.1 rfl
theorem dsame {L9 : List Cx} (h : NdP w nd X lo rooms L9 n) (hd : DnP w nw Xd lo2 Bd rooms L) (hst : L9.map stc = L.map stc) : CV Tryz.prog 18 #[.pointer (some ⟨nd, 0, none⟩), .pointer (some ⟨nw, 0, none⟩)] w fun x w1 => x = .bool true ∧ Step No w w1 := by
  obtain ⟨h0, l, rA, rc, A, c, rfl, hX⟩ := hd
  exact same_any nd lo X n nw lo2 rooms L9 l w h hst hX.dv h0
end
end Go.Proofs.YthchmlidobgkoaaGreat
end

section
/- Layer 20: AdmitBack. -/
set_option linter.unusedVariables false
set_option linter.unusedSimpArgs false
set_option maxRecDepth 100000
set_option maxHeartbeats 4000000
namespace Go.Proofs.YthchmlidobgkoaaGreat
open Go.Vc Go.RowKit
theorem TDakaa {P : Prop} (h : P := by rw [wrap_i64 _ (by omega) (by omega)]; omega) : P := h
theorem TDakab {P : Prop} (h : P := by first | (simp only [iL_length]; omega) | (rw [flat_len opc_len]; omega) | omega) : P := h

theorem admitBack_any (A : Option Addr) (m c : Nat) (rs : List Int) (A2 : Option Addr) (m2 c2 : Nat) (os : List OpA) (A3 : Option Addr) (m3 c3 : Nat) (os3 : List OpA) (w : World) (hrs : rs.length = m) (hmc : m ≤ c) (hA : Sl w w.heap.size A (iL .i64 rs)) (hos : os.length = m2) (hA2 : Sl w w.heap.size A2 (flat opc os))  (hos3 : os3.length = m3) (hA3 : Sl w w.heap.size A3 (flat opc os3)) (hmm : m2 ≤ maxLen) (hmm3 : m3 ≤ maxLen) :
  CV Tryz.prog 4 #[.slice A m c, .slice A2 m2 c2, .slice A3 m3 c3] w (fun x w1 => x = Bo true ∧ Step No w w1) := by
 have hS : Step No w w := Step.refl _ _
 refine VCe Tryz.func4 (Vrp (Vs (Vs (Vr ?_))))
 refine Vc 0 Tryz.call5 (awake_any _) ?_
 rintro _ w1 ⟨rfl, hc1⟩
 replace hS := Step.trans hS hc1
 replace hA := hA.no hc1
 replace hA2 := hA2.no hc1
 replace hA3 := hA3.no hc1
 refine VL_pure 8 [0, 1, 2, 20] [(0, .slice A m c), (1, .slice A2 m2 c2), (2, .slice A3 m3 c3), (20, Bo (decide (((m2 : Nat) : Int) > 100)))] (by kernel_rfl) rfl (VL_dec (((m2 : Nat) : Int) > 100) (fun bV => [(0, .slice A m c), (1, .slice A2 m2 c2), (2, .slice A3 m3 c3), (20, Bo bV)]) rfl (fun hg1 => ?_) (fun hg1 => ?_))
 ·refine Ve (Vn (Vt (Vs (Vr ?_))))
  refine Vc 0 Tryz.call5 (awake_any _) ?_
  rintro _ w2 ⟨rfl, hc2⟩
  replace hS := Step.trans hS hc2
  refine Ve (Vn (VC_ret (VQ_then_ret (Vr1 (Bo true) ?_))))
  exact ⟨rfl, hS⟩
 ·refine VL_pure 13 [0, 1, 2, 25] [(0, .slice A m c), (1, .slice A2 m2 c2), (2, .slice A3 m3 c3), (25, Bo (decide (((m3 : Nat) : Int) > 100)))] (by kernel_rfl) rfl (VL_dec (((m3 : Nat) : Int) > 100) (fun bV => [(0, .slice A m c), (1, .slice A2 m2 c2), (2, .slice A3 m3 c3), (25, Bo bV)]) rfl (fun hg2 => ?_) (fun hg2 => ?_))
  ·refine Ve (Vn (Vt (Vs (Vr ?_))))
   refine Vc 0 Tryz.call5 (awake_any _) ?_
   rintro _ w3 ⟨rfl, hc3⟩
   replace hS := Step.trans hS hc3
   refine Ve (Vn (VC_ret (VQ_then_ret (Vr1 (Bo true) ?_))))
   exact ⟨rfl, hS⟩
  ·refine Ve (Vn (Vid (((m : Nat) : Int) > 20) (fun h1 => ?_) (fun h1 => ?_)))
   ·refine Vs (Vr ?_)
    refine Vc 0 Tryz.call5 (awake_any _) ?_
    rintro _ w4 ⟨rfl, hc4⟩
    replace hS := Step.trans hS hc4
    refine Ve (Vn (VC_ret (VQ_then_ret (Vr1 (Bo true) ?_))))
    exact ⟨rfl, hS⟩
   ·refine VC_skip (Vn (Vs (Vr (Vp 1 ?_))))
    have hzs5 := hS.size
    refine Vc 1 Tryz.call6 (nnew hrs hA (by omega) (by omega)) ?_
    rintro _ w5 ⟨nd1, X1, rfl, hN1, hXg1, hc5⟩
    replace hS := Step.trans hS hc5
    replace hA := hA.no hc5
    replace hA2 := hA2.no hc5
    replace hA3 := hA3.no hc5
    obtain ⟨lo1, hlo1E⟩ : ∃ x, x = w1.heap.size := ⟨_, rfl⟩
    rw [← hlo1E] at hN1
    refine Vp 3 ?_
    have hzs6 := hS.size
    refine Vc 3 Tryz.call7 (ddnew hrs hA (by omega) (by omega) (by simp only [maxLen]; omega)) ?_
    rintro _ w6 ⟨nw1, X2, rfl, hD1, hc6⟩
    replace hS := Step.trans hS hc6
    replace hA := hA.no hc6
    replace hA2 := hA2.no hc6
    replace hA3 := hA3.no hc6
    replace hN1 := NdP.no hN1 hc6
    obtain ⟨lo2, hlo2E⟩ : ∃ x, x = w5.heap.size := ⟨_, rfl⟩
    obtain ⟨Bd1, hBd1E⟩ : ∃ x, x = w6.heap.size := ⟨_, rfl⟩
    rw [← hlo2E, ← hBd1E] at hD1
    have hleBd1 : Bd1 ≤ w6.heap.size := by omega
    refine Ve (Vn (Vs (Vrp (VC_block (VC_loop (σ := Nat × (Nat → Prop) × (Nat → Prop) × (List Cx) × (List Cx)) (fun σs => [(1, .slice A2 m2 c2), (2, .slice A3 m3 c3), (7, Pt nd1 0), (8, Pt nw1 0), (36, I6 ((m2 : Nat) : Int)), (37, I6 ((σs.1 : Nat) : Int))]) (fun σs wr => σs.1 ≤ m2 ∧ NdP wr nd1 σs.2.1 lo1 (roomsN rs) σs.2.2.2.1 σs.1 ∧ DnP wr nw1 σs.2.2.1 lo2 Bd1 (roomsN rs) σs.2.2.2.2 ∧ σs.2.2.2.1.map stc = σs.2.2.2.2.map stc ∧ (Step No w wr) ∧ (Sl wr w.heap.size A (iL .i64 rs)) ∧ (Sl wr w.heap.size A2 (flat opc os)) ∧ (Sl wr w.heap.size A3 (flat opc os3)) ∧ (Bd1 ≤ wr.heap.size)) (fun σs wr => m2 - σs.1) ⟨0, X1, X2, [], []⟩ Su ?_ ?_)))))
    ·exact ⟨Nat.zero_le _, hN1, hD1, rfl, hS, hA, hA2, hA3, hleBd1⟩
    rintro ⟨iS, XS, XT, LS, LT⟩ wr ⟨hi0, hNSa, hDSb, hst, hS, hA, hA2, hA3, hleBd1⟩
    try dsimp only at hi0 hNSa hDSb hst hS hA hA2 hA3 hleBd1 ⊢
    refine Vrp (Vs (Vid (((iS : Nat) : Int) < ((m2 : Nat) : Int)) (fun h2 => ?_) (fun h2 => ?_)))
    ·refine VC_skip (Vn (Vs (VC_block (Vrp (Vs (Vr (Vp 3 ?_)))))))
     obtain ⟨sb1, so1, rfl, hlbsb1⟩ := hA2.open TDakab
     refine VL_index (d := 43) (b := sb1) (o := so1) (len := m2) (sz := 12) (m := ((iS : Nat) : Int)) (by kernel_rfl) (by kernel_rfl) iS (by rfl) (by omega) (so1 + iS * 12) (by omega) ?_
     obtain ⟨y1, hy1⟩ : ∃ x, os[iS]? = some x := ⟨_, List.getElem?_eq_getElem (by have hq9 : os.length = m2 := hos; omega)⟩
     refine Vla 4 (t := 34) (a := ⟨sb1, so1 + iS * 12, none⟩) (v := .agg #[I6 y1.d, I6 y1.p, I6 y1.v, I6 y1.c, I6 y1.k.kind, I6 y1.k.peak, I6 y1.k.early, I6 y1.k.whole, I6 y1.k.burst, I6 y1.k.least, I6 y1.t, I6 y1.clp]) (Sl.flatAgg (sz := 12) hA2 opc_len hy1 0 12 (by kernel_rfl) (by decide) _ (by first | rfl | omega)) ?_
     refine Vc 5 Tryz.call19 (do_any hNSa (by omega) y1) ?_
     rintro _ w7 ⟨rfl, X3, hN2, hXg2, hc7⟩
     replace hDSb := DnP.byN hDSb hNSa hc7
     replace hS := Step.transNew hS hc7 (fun i9 hi9 hX9 => by have h8 := NdP.low hNSa hX9; omega)
     replace hA := hA.step hc7 (fun k9 hk9 hX9 => by have h8 := NdP.low hNSa hX9; omega)
     replace hA2 := hA2.keepB hc7 (fun hX9 => by have h8 := NdP.low hNSa hX9; omega)
     replace hA3 := hA3.step hc7 (fun k9 hk9 hX9 => by have h8 := NdP.low hNSa hX9; omega)
     replace hleBd1 := Nat.le_trans hleBd1 (Step.size hc7)
     refine Ve (Vn (Vs (Vr (Vp 2 (VL_index (d := 48) (b := sb1) (o := so1) (len := m2) (sz := 12) (m := ((iS : Nat) : Int)) (by kernel_rfl) (by kernel_rfl) iS (by rfl) (by omega) (so1 + iS * 12) (by omega) (Vla 4 (t := 3) (a := ⟨sb1, so1 + iS * 12, none⟩) (v := I6 y1.d) (Sl.flatOne (sz := 12) hA2 opc_len hy1 0 (by rfl) (by decide) (by kernel_rfl) _ (by first | rfl | omega)) (Ve (Vn (VC_block (Vrp (Vie y1.d 1 (fun h3 => ?_) (fun h3 => ?_))))))))))))
     ·have hs1 := drew_step w7
      have hs1z : w7.heap.size = w7.drew.heap.size := rfl
      refine Tx 11 (fun k => w7.heap.size ≤ k) [] [0, 1, 2, 3, 4, 5, 6, 7, 8, 9, 10] ?_
      have hzs8 := hS.size
      generalize w7.drew = w8 at hs1 hs1z ⊢
      replace hDSb := DnP.no hDSb hs1
      replace hS := Step.trans hS hs1
      replace hA := hA.no hs1
      replace hA2 := hA2.no hs1
      replace hA3 := hA3.no hs1
      replace hleBd1 := Nat.le_trans hleBd1 (hs1).size
      replace hN2 := NdP.no hN2 hs1
      refine Tp 3 (VT_index (d := 56) (b := sb1) (o := so1) (len := m2) (sz := 12) (mm := ((iS : Nat) : Int)) (by kernel_rfl) (by kernel_rfl) iS (by rfl) (by omega) (so1 + iS * 12) (by omega) (Tp 1 (VT_load (d := 58) (t := 30) (a := ⟨sb1, so1 + iS * 12 + 1, none⟩) (v := .agg #[I6 y1.p, I6 y1.v, I6 y1.c]) (by kernel_rfl) (by kernel_rfl) ?_ ?_)))
      ·intro w9 hr1
       replace hA2 := hA2.keepB hr1 (by (try simp only); omega)
       exact (Sl.flatAgg (sz := 12) hA2 opc_len hy1 1 3 (by kernel_rfl) (by decide) _ (by first | rfl | omega))
      refine Tp 2 (VT_index (d := 61) (b := sb1) (o := so1) (len := m2) (sz := 12) (mm := ((iS : Nat) : Int)) (by kernel_rfl) (by kernel_rfl) iS (by rfl) (by omega) (so1 + iS * 12) (by omega) (Tp 1 (VT_load (d := 63) (t := 32) (a := ⟨sb1, so1 + iS * 12 + 4, none⟩) (v := .agg #[I6 y1.k.kind, I6 y1.k.peak, I6 y1.k.early, I6 y1.k.whole, I6 y1.k.burst, I6 y1.k.least]) (by kernel_rfl) (by kernel_rfl) ?_ ?_)))
      ·intro w10 hr2
       replace hA2 := hA2.keepB hr2 (by (try simp only); omega)
       exact (Sl.flatAgg (sz := 12) hA2 opc_len hy1 4 6 (by kernel_rfl) (by decide) _ (by first | rfl | omega))
      refine VT_end ?_
      intro w11 hs2
      replace hDSb := DnP.no hDSb hs2
      replace hS := Step.trans hS hs2
      replace hA := hA.no hs2
      replace hA2 := hA2.no hs2
      replace hA3 := hA3.no hs2
      replace hleBd1 := Nat.le_trans hleBd1 (hs2).size
      replace hN2 := NdP.no hN2 hs2
      refine VL_keep [1, 2, 7, 8, 36, 37, 53, 58, 63] [(1, .slice (some ⟨sb1, so1, none⟩) m2 c2), (2, .slice A3 m3 c3), (7, Pt nd1 0), (8, Pt nw1 0), (36, I6 ((m2 : Nat) : Int)), (37, I6 ((iS : Nat) : Int)), (53, Pt nw1 0), (58, .agg #[I6 y1.p, I6 y1.v, I6 y1.c]), (63, .agg #[I6 y1.k.kind, I6 y1.k.peak, I6 y1.k.early, I6 y1.k.whole, I6 y1.k.burst, I6 y1.k.least])] (by kernel_rfl) ?_
      refine VL_call (d := 64) (f := 11) (args := #[Pt nw1 0, .agg #[I6 y1.p, I6 y1.v, I6 y1.c], .agg #[I6 y1.k.kind, I6 y1.k.peak, I6 y1.k.early, I6 y1.k.whole, I6 y1.k.burst, I6 y1.k.least]]) (by kernel_rfl) (by kernel_rfl) (by kernel_rfl) Tryz.call11 (ddtake_any hDSb y1.p y1.v y1.c y1.k) ?_
      rintro _ w12 ⟨rfl, X4, hD2, hXg3, hc8⟩
      replace hS := Step.transNew hS hc8 (fun i9 hi9 hX9 => by have h8 := DnP.low hDSb hX9; omega)
      replace hA := hA.step hc8 (fun k9 hk9 hX9 => by have h8 := DnP.low hDSb hX9; omega)
      replace hA2 := hA2.keepB hc8 (fun hX9 => by have h8 := DnP.low hDSb hX9; omega)
      replace hA3 := hA3.step hc8 (fun k9 hk9 hX9 => by have h8 := DnP.low hDSb hX9; omega)
      replace hleBd1 := Nat.le_trans hleBd1 (Step.size hc8)
      replace hN2 := NdP.byD hN2 hDSb hc8
      refine Ve (VQ_block_normal (VQ_block_normal (Vn (Vr (Vp 1 ?_)))))
      have he1 : IntKind.wrap .i64 (((iS : Nat) : Int) + 1) = ((iS + 1 : Nat) : Int) := TDakaa
      refine Vq 88 (I6 (IntKind.wrap .i64 (((iS : Nat) : Int) + 1))) (I6 ((iS + 1 : Nat) : Int)) (by rw [he1]) (Ve (VQ_again ⟨iS + 1, X3, X4, doL (roomsN rs) LS y1, takeN (roomsN rs) LT y1.p y1.v y1.c y1.k⟩ Su ?_ ?_))
      ·exact ⟨by (try dsimp only); omega, hN2, hD2, (by rw [show takeN (roomsN rs) LT y1.p y1.v y1.c y1.k = doD (roomsN rs) LT y1 by unfold doD; simp [*]]; exact st_do hst y1), hS, hA, hA2, hA3, hleBd1⟩
      ·(try dsimp only); omega
     ·refine Vrp (Vie y1.d 2 (fun h4 => ?_) (fun h4 => ?_))
      ·have hs3 := drew_step w7
       have hs3z : w7.heap.size = w7.drew.heap.size := rfl
       refine Tx 11 (fun k => w7.heap.size ≤ k) [] [0, 1, 2, 3, 4, 5, 6, 7, 8, 9, 10] ?_
       have hzs10 := hS.size
       generalize w7.drew = w13 at hs3 hs3z ⊢
       replace hDSb := DnP.no hDSb hs3
       replace hS := Step.trans hS hs3
       replace hA := hA.no hs3
       replace hA2 := hA2.no hs3
       replace hA3 := hA3.no hs3
       replace hleBd1 := Nat.le_trans hleBd1 (hs3).size
       replace hN2 := NdP.no hN2 hs3
       refine Tp 3 (VT_index (d := 70) (b := sb1) (o := so1) (len := m2) (sz := 12) (mm := ((iS : Nat) : Int)) (by kernel_rfl) (by kernel_rfl) iS (by rfl) (by omega) (so1 + iS * 12) (by omega) (Tp 1 (VT_load (d := 72) (t := 30) (a := ⟨sb1, so1 + iS * 12 + 1, none⟩) (v := .agg #[I6 y1.p, I6 y1.v, I6 y1.c]) (by kernel_rfl) (by kernel_rfl) ?_ ?_)))
       ·intro w14 hr3
        replace hA2 := hA2.keepB hr3 (by (try simp only); omega)
        exact (Sl.flatAgg (sz := 12) hA2 opc_len hy1 1 3 (by kernel_rfl) (by decide) _ (by first | rfl | omega))
       refine Tp 2 (VT_index (d := 75) (b := sb1) (o := so1) (len := m2) (sz := 12) (mm := ((iS : Nat) : Int)) (by kernel_rfl) (by kernel_rfl) iS (by rfl) (by omega) (so1 + iS * 12) (by omega) (Tp 1 (VT_load (d := 77) (t := 32) (a := ⟨sb1, so1 + iS * 12 + 4, none⟩) (v := .agg #[I6 y1.k.kind, I6 y1.k.peak, I6 y1.k.early, I6 y1.k.whole, I6 y1.k.burst, I6 y1.k.least]) (by kernel_rfl) (by kernel_rfl) ?_ ?_)))
       ·intro w15 hr4
        replace hA2 := hA2.keepB hr4 (by (try simp only); omega)
        exact (Sl.flatAgg (sz := 12) hA2 opc_len hy1 4 6 (by kernel_rfl) (by decide) _ (by first | rfl | omega))
       refine VT_end ?_
       intro w16 hs4
       replace hDSb := DnP.no hDSb hs4
       replace hS := Step.trans hS hs4
       replace hA := hA.no hs4
       replace hA2 := hA2.no hs4
       replace hA3 := hA3.no hs4
       replace hleBd1 := Nat.le_trans hleBd1 (hs4).size
       replace hN2 := NdP.no hN2 hs4
       refine VL_keep [1, 2, 7, 8, 36, 37, 67, 72, 77] [(1, .slice (some ⟨sb1, so1, none⟩) m2 c2), (2, .slice A3 m3 c3), (7, Pt nd1 0), (8, Pt nw1 0), (36, I6 ((m2 : Nat) : Int)), (37, I6 ((iS : Nat) : Int)), (67, Pt nw1 0), (72, .agg #[I6 y1.p, I6 y1.v, I6 y1.c]), (77, .agg #[I6 y1.k.kind, I6 y1.k.peak, I6 y1.k.early, I6 y1.k.whole, I6 y1.k.burst, I6 y1.k.least])] (by kernel_rfl) ?_
       refine VL_call (d := 78) (f := 13) (args := #[Pt nw1 0, .agg #[I6 y1.p, I6 y1.v, I6 y1.c], .agg #[I6 y1.k.kind, I6 y1.k.peak, I6 y1.k.early, I6 y1.k.whole, I6 y1.k.burst, I6 y1.k.least]]) (by kernel_rfl) (by kernel_rfl) (by kernel_rfl) Tryz.call13 (ddchange hDSb y1.p y1.v y1.c y1.k) ?_
       rintro _ w17 ⟨rfl, X5, hD3, hXg4, hc9⟩
       replace hS := Step.transNew hS hc9 (fun i9 hi9 hX9 => by have h8 := DnP.low hDSb hX9; omega)
       replace hA := hA.step hc9 (fun k9 hk9 hX9 => by have h8 := DnP.low hDSb hX9; omega)
       replace hA2 := hA2.keepB hc9 (fun hX9 => by have h8 := DnP.low hDSb hX9; omega)
       replace hA3 := hA3.step hc9 (fun k9 hk9 hX9 => by have h8 := DnP.low hDSb hX9; omega)
       replace hleBd1 := Nat.le_trans hleBd1 (Step.size hc9)
       replace hN2 := NdP.byD hN2 hDSb hc9
       refine Ve (VQ_block_normal (VQ_block_normal (Vn (Vr (Vp 1 ?_)))))
       have he2 : IntKind.wrap .i64 (((iS : Nat) : Int) + 1) = ((iS + 1 : Nat) : Int) := TDakaa
       refine Vq 88 (I6 (IntKind.wrap .i64 (((iS : Nat) : Int) + 1))) (I6 ((iS + 1 : Nat) : Int)) (by rw [he2]) (Ve (VQ_again ⟨iS + 1, X3, X5, doL (roomsN rs) LS y1, chgN (roomsN rs) LT y1.p y1.v y1.c y1.k⟩ Su ?_ ?_))
       ·exact ⟨by (try dsimp only); omega, hN2, hD3, (by rw [show chgN (roomsN rs) LT y1.p y1.v y1.c y1.k = doD (roomsN rs) LT y1 by unfold doD; simp [*]]; exact st_do hst y1), hS, hA, hA2, hA3, hleBd1⟩
       ·(try dsimp only); omega
      ·refine Vrp (Vie y1.d 3 (fun h5 => ?_) (fun h5 => ?_))
       ·refine Vr (Vp 3 (VL_index (d := 84) (b := sb1) (o := so1) (len := m2) (sz := 12) (m := ((iS : Nat) : Int)) (by kernel_rfl) (by kernel_rfl) iS (by rfl) (by omega) (so1 + iS * 12) (by omega) (Vla 5 (t := 30) (a := ⟨sb1, so1 + iS * 12 + 1, none⟩) (v := .agg #[I6 y1.p, I6 y1.v, I6 y1.c]) (Sl.flatAgg (sz := 12) hA2 opc_len hy1 1 3 (by kernel_rfl) (by decide) _ (by first | rfl | omega)) ?_)))
        refine Vc 6 Tryz.call15 (dddrop hDSb y1.p y1.v y1.c) ?_
        rintro _ w18 ⟨rfl, X6, hD4, hXg5, hc10⟩
        replace hS := Step.transNew hS hc10 (fun i9 hi9 hX9 => by have h8 := DnP.low hDSb hX9; omega)
        replace hA := hA.step hc10 (fun k9 hk9 hX9 => by have h8 := DnP.low hDSb hX9; omega)
        replace hA2 := hA2.keepB hc10 (fun hX9 => by have h8 := DnP.low hDSb hX9; omega)
        replace hA3 := hA3.step hc10 (fun k9 hk9 hX9 => by have h8 := DnP.low hDSb hX9; omega)
        replace hleBd1 := Nat.le_trans hleBd1 (Step.size hc10)
        replace hN2 := NdP.byD hN2 hDSb hc10
        refine Ve (VQ_block_normal (VQ_block_normal (Vn (Vr (Vp 1 ?_)))))
        have he3 : IntKind.wrap .i64 (((iS : Nat) : Int) + 1) = ((iS + 1 : Nat) : Int) := TDakaa
        refine Vq 88 (I6 (IntKind.wrap .i64 (((iS : Nat) : Int) + 1))) (I6 ((iS + 1 : Nat) : Int)) (by rw [he3]) (Ve (VQ_again ⟨iS + 1, X3, X6, doL (roomsN rs) LS y1, delC LT y1.p y1.v y1.c⟩ Su ?_ ?_))
        ·exact ⟨by (try dsimp only); omega, hN2, hD4, (by rw [show delC LT y1.p y1.v y1.c = doD (roomsN rs) LT y1 by unfold doD; simp [*]]; exact st_do hst y1), hS, hA, hA2, hA3, hleBd1⟩
        ·(try dsimp only); omega
       ·refine VC_skip (VQ_block_normal (VQ_block_normal (Vn (Vr (Vp 1 ?_)))))
        have he4 : IntKind.wrap .i64 (((iS : Nat) : Int) + 1) = ((iS + 1 : Nat) : Int) := TDakaa
        refine Vq 88 (I6 (IntKind.wrap .i64 (((iS : Nat) : Int) + 1))) (I6 ((iS + 1 : Nat) : Int)) (by rw [he4]) (Ve (VQ_again ⟨iS + 1, X3, XT, doL (roomsN rs) LS y1, LT⟩ Su ?_ ?_))
        ·exact ⟨by (try dsimp only); omega, hN2, hDSb, (by rw [show LT = doD (roomsN rs) LT y1 by unfold doD; simp [*]]; exact st_do hst y1), hS, hA, hA2, hA3, hleBd1⟩
        ·(try dsimp only); omega
    ·refine VC_exit (VQ_then_exit (VQ_then_exit (VQ_block_hit (Vn (Vrp (Vs (Vrp (VC_block ?_))))))))
     have hNj := NdP.more (m := 1000) hNSa (by omega)
     obtain ⟨base9, hb9E⟩ : ∃ x, x = wr.heap.size := ⟨_, rfl⟩
     have hb9 : base9 ≤ wr.heap.size := Nat.le_of_eq hb9E
     have hbw9 : w.heap.size ≤ base9 := by have h9 := hS.size; omega
     have hrn := RwS.nil wr 3 base9 30
     refine VC_loop (σ := Nat × (Nat → Prop) × (List Cx) × (List Cx) × (Option Addr) × Nat × Nat) (fun σs => [(2, .slice A3 m3 c3), (7, Pt nd1 0), (8, Pt nw1 0), (90, I6 ((m3 : Nat) : Int)), (91, I6 ((σs.1 : Nat) : Int)), (10, .slice σs.2.2.2.2.1 σs.2.2.2.2.2.1 σs.2.2.2.2.2.2)]) (fun σs wp => σs.1 ≤ m3 ∧ NdP wp nd1 σs.2.1 lo1 (roomsN rs) σs.2.2.1 (1000 + σs.1) ∧ TkI LS σs.2.2.1 σs.2.2.2.1 ∧ σs.2.2.2.2.2.1 ≤ σs.1 ∧ RwS wp 3 base9 30 σs.2.2.2.2.1 σs.2.2.2.2.2.1 σs.2.2.2.2.2.2 (flat keyc σs.2.2.2.1) ∧ (DnP wp nw1 XT lo2 Bd1 (roomsN rs) LT) ∧ (Step No w wp) ∧ (Sl wp w.heap.size A (iL .i64 rs)) ∧ (Sl wp w.heap.size A2 (flat opc os)) ∧ (Sl wp w.heap.size A3 (flat opc os3)) ∧ (Bd1 ≤ wp.heap.size) ∧ (base9 ≤ wp.heap.size)) (fun σs wp => m3 - σs.1) ⟨0, XS, LS, [], none, 0, 0⟩ Su ?_ ?_
     ·exact ⟨Nat.zero_le _, hNj, TkI.nil _, Nat.le_refl _, hrn, hDSb, hS, hA, hA2, hA3, hleBd1, hb9⟩
     rintro ⟨jS, XJ, LJ, TJ, A9, m9, c9⟩ wp ⟨hj0, hNp, hTk, hm9, hr9, hDSb, hS, hA, hA2, hA3, hleBd1, hb9⟩
     try dsimp only at hj0 hNp hTk hm9 hr9 hDSb hS hA hA2 hA3 hleBd1 hb9 ⊢
     have hlr : TJ.length = m9 := by have hq9 := RwS.len hr9; rw [flat_len keyc_len] at hq9; omega
     have hub9 := hr9.ub
     refine Vrp (Vs (Vid (((jS : Nat) : Int) < ((m3 : Nat) : Int)) (fun h6 => ?_) (fun h6 => ?_)))
     ·refine VC_skip (Vn (Vs (VC_block (Vrp (Vs ?_)))))
      obtain ⟨sb2, so2, rfl, hlbsb2⟩ := hA3.open TDakab
      have hs5 := drew_step wp
      have hs5z : wp.heap.size = wp.drew.heap.size := rfl
      refine Tx 11 (fun k => wp.heap.size ≤ k) [] [0, 1, 2, 3, 4, 5, 6, 7, 8, 9, 10] ?_
      have hzs13 := hS.size
      generalize wp.drew = w19 at hs5 hs5z ⊢
      replace hNp := NdP.no hNp hs5
      replace hr9 := hr9.no hs5
      replace hDSb := DnP.no hDSb hs5
      replace hS := Step.trans hS hs5
      replace hA := hA.no hs5
      replace hA2 := hA2.no hs5
      replace hA3 := hA3.no hs5
      replace hleBd1 := Nat.le_trans hleBd1 (hs5).size
      replace hb9 := Nat.le_trans hb9 (hs5).size
      refine Tp 3 (VT_index (d := 97) (b := sb2) (o := so2) (len := m3) (sz := 12) (mm := ((jS : Nat) : Int)) (by kernel_rfl) (by kernel_rfl) jS (by rfl) (by omega) (so2 + jS * 12) (by omega) (Tp 1 ?_))
      obtain ⟨y2, hy2⟩ : ∃ x, os3[jS]? = some x := ⟨_, List.getElem?_eq_getElem (by have hq9 : os3.length = m3 := hos3; omega)⟩
      refine VT_load (d := 99) (t := 30) (a := ⟨sb2, so2 + jS * 12 + 1, none⟩) (v := .agg #[I6 y2.p, I6 y2.v, I6 y2.c]) (by kernel_rfl) (by kernel_rfl) ?_ ?_
      ·intro w20 hr5
       replace hA3 := hA3.keepB hr5 (by (try simp only); omega)
       exact (Sl.flatAgg (sz := 12) hA3 opc_len hy2 1 3 (by kernel_rfl) (by decide) _ (by first | rfl | omega))
      refine Tp 2 (VT_index (d := 102) (b := sb2) (o := so2) (len := m3) (sz := 12) (mm := ((jS : Nat) : Int)) (by kernel_rfl) (by kernel_rfl) jS (by rfl) (by omega) (so2 + jS * 12) (by omega) (Tp 1 (VT_load (d := 104) (t := 32) (a := ⟨sb2, so2 + jS * 12 + 4, none⟩) (v := .agg #[I6 y2.k.kind, I6 y2.k.peak, I6 y2.k.early, I6 y2.k.whole, I6 y2.k.burst, I6 y2.k.least]) (by kernel_rfl) (by kernel_rfl) ?_ ?_)))
      ·intro w21 hr6
       replace hA3 := hA3.keepB hr6 (by (try simp only); omega)
       exact (Sl.flatAgg (sz := 12) hA3 opc_len hy2 4 6 (by kernel_rfl) (by decide) _ (by first | rfl | omega))
      refine VT_end ?_
      intro w22 hs6
      replace hNp := NdP.no hNp hs6
      replace hr9 := hr9.no hs6
      replace hDSb := DnP.no hDSb hs6
      replace hS := Step.trans hS hs6
      replace hA := hA.no hs6
      replace hA2 := hA2.no hs6
      replace hA3 := hA3.no hs6
      replace hleBd1 := Nat.le_trans hleBd1 (hs6).size
      replace hb9 := Nat.le_trans hb9 (hs6).size
      refine VL_keep [2, 7, 8, 90, 91, 10, 11, 94, 99, 104] [(2, .slice (some ⟨sb2, so2, none⟩) m3 c3), (7, Pt nd1 0), (8, Pt nw1 0), (90, I6 ((m3 : Nat) : Int)), (91, I6 ((jS : Nat) : Int)), (10, .slice A9 m9 c9), (11, I6 ((jS : Nat) : Int)), (94, Pt nd1 0), (99, .agg #[I6 y2.p, I6 y2.v, I6 y2.c]), (104, .agg #[I6 y2.k.kind, I6 y2.k.peak, I6 y2.k.early, I6 y2.k.whole, I6 y2.k.burst, I6 y2.k.least])] (by kernel_rfl) ?_
      refine VL_call (d := 105) (f := 10) (args := #[Pt nd1 0, .agg #[I6 y2.p, I6 y2.v, I6 y2.c], .agg #[I6 y2.k.kind, I6 y2.k.peak, I6 y2.k.early, I6 y2.k.whole, I6 y2.k.burst, I6 y2.k.least]]) (by kernel_rfl) (by kernel_rfl) (by kernel_rfl) Tryz.call10 (ntake hNp (by omega) y2.p y2.v y2.c y2.k) ?_
      rintro _ w23 ⟨rfl, X7, hN3, hXg6, hc11⟩
      replace hr9 := RwS_nd hNp hr9 (by decide) hc11
      replace hDSb := DnP.byN hDSb hNp hc11
      replace hS := Step.transNew hS hc11 (fun i9 hi9 hX9 => by have h8 := NdP.low hNp hX9; omega)
      replace hA := hA.step hc11 (fun k9 hk9 hX9 => by have h8 := NdP.low hNp hX9; omega)
      replace hA2 := hA2.step hc11 (fun k9 hk9 hX9 => by have h8 := NdP.low hNp hX9; omega)
      replace hA3 := hA3.keepB hc11 (fun hX9 => by have h8 := NdP.low hNp hX9; omega)
      replace hleBd1 := Nat.le_trans hleBd1 (Step.size hc11)
      replace hb9 := Nat.le_trans hb9 (Step.size hc11)
      refine Ve (Vn (Vie (chkN (roomsN rs) LJ y2.p y2.v y2.c y2.k) 0 (fun h7 => ?_) (fun h7 => ?_)))
      ·refine Vr (Vp 3 (VL_index (d := 110) (b := sb2) (o := so2) (len := m3) (sz := 12) (m := ((jS : Nat) : Int)) (by kernel_rfl) (by kernel_rfl) jS (by rfl) (by omega) (so2 + jS * 12) (by omega) (Vla 5 (t := 30) (a := ⟨sb2, so2 + jS * 12 + 1, none⟩) (v := .agg #[I6 y2.p, I6 y2.v, I6 y2.c]) (Sl.flatAgg (sz := 12) hA3 opc_len hy2 1 3 (by kernel_rfl) (by decide) _ (by first | rfl | omega)) ?_)))
       refine VL_bs (d := 113) (e := 30) (c := #[I6 y2.p, I6 y2.v, I6 y2.c]) (len := 1) (by kernel_rfl) (by kernel_rfl) ?_
       intro b1 w24 hn1
       replace hr9 := hr9.no (hn1.step No)
       replace hDSb := DnP.no hDSb (hn1.step No)
       replace hS := Step.trans hS (hn1.step No)
       replace hA := hA.no (hn1.step No)
       replace hA2 := hA2.no (hn1.step No)
       replace hA3 := hA3.no (hn1.step No)
       replace hleBd1 := Nat.le_trans hleBd1 (hn1.step No).size
       replace hb9 := Nat.le_trans hb9 (hn1.step No).size
       replace hN3 := NdP.no hN3 (hn1.step No)
       have ho1 := hn1.own
       have hzk6 := hb9
       refine VL_appendZ (d := 114) (e := 30) (A := A9) (m := m9) (c := c9) (A2 := (some ⟨b1, 0, none⟩)) (m2 := 1) (c2 := 1) (sz := 3) (bytes := 24) (by kernel_rfl) (by kernel_rfl) (by kernel_rfl) base9 w24.heap.size (flat keyc TJ) (flat keyc [(opx y2)]) hr9 (by rw [flat_one, keyc_len]) (Sl.mono (Sl.cast (Own.sl ho1 ho1.lt) (by first | rfl | simp [flat])) (by first | exact Nat.le_refl _ | omega)) (flat_one' keyc_one _) (m9 + 1) (by omega) (by simp only [maxLen]; omega) (by omega) (by omega) ?_
       intro A1 c1 w25 hr7 hg3
       replace hr7 : RwS w25 3 base9 30 A1 (m9 + 1) c1 (flat keyc (TJ ++ ([(opx y2)]))) := RwS.cast hr7 rfl (by simp only [flat_append, flat_one, List.append_assoc, List.nil_append, List.append_nil, show flat keyc [] = [] from rfl])
       have hgO := hg3
       replace hg3 := Step.mono (G := fun k => base9 ≤ k) hg3 (fun i hi => (RwS.lt hr9 i hi).1)
       replace hDSb := DnP.row hDSb hr9 (by decide) hgO
       replace hS := Step.transNew hS hg3 (fun i hi hG => by (try simp only at hG); omega)
       replace hA := hA.step hg3 (fun k hk hG => by (try simp only at hG); omega)
       replace hA2 := hA2.step hg3 (fun k hk hG => by (try simp only at hG); omega)
       replace hA3 := hA3.keepB hg3 (by (try simp only); omega)
       replace hleBd1 := Nat.le_trans hleBd1 (hg3).size
       replace hb9 := Nat.le_trans hb9 (hg3).size
       replace hN3 := NdP.row hN3 hr9 (by decide) hgO
       have hlhr7 : (TJ ++ ([(opx y2)])).length = m9 + 1 := by have hq9 := RwS.len hr7; rw [flat_len keyc_len] at hq9 <;> omega
       refine Ve (VQ_block_normal (Vn (Vr (Vp 1 ?_))))
       have he5 : IntKind.wrap .i64 (((jS : Nat) : Int) + 1) = ((jS + 1 : Nat) : Int) := TDakaa
       refine Vq 115 (I6 (IntKind.wrap .i64 (((jS : Nat) : Int) + 1))) (I6 ((jS + 1 : Nat) : Int)) (by rw [he5]) (Ve (VQ_again ⟨jS + 1, X7, takeN (roomsN rs) LJ y2.p y2.v y2.c y2.k, TJ ++ ([(opx y2)]), A1, m9 + 1, c1⟩ Su ?_ ?_))
       ·exact ⟨by (try dsimp only); omega, (NdP.more hN3 (by (try dsimp only); omega)), (TkI.take hTk y2 (by assumption)), by (try dsimp only); omega, hr7, hDSb, hS, hA, hA2, hA3, hleBd1, hb9⟩
       ·(try dsimp only); omega
      ·refine VC_skip (VQ_block_normal (Vn (Vr (Vp 1 ?_))))
       have he6 : IntKind.wrap .i64 (((jS : Nat) : Int) + 1) = ((jS + 1 : Nat) : Int) := TDakaa
       refine Vq 115 (I6 (IntKind.wrap .i64 (((jS : Nat) : Int) + 1))) (I6 ((jS + 1 : Nat) : Int)) (by rw [he6]) (Ve (VQ_again ⟨jS + 1, X7, takeN (roomsN rs) LJ y2.p y2.v y2.c y2.k, TJ, A9, m9, c9⟩ Su ?_ ?_))
       ·exact ⟨by (try dsimp only); omega, (NdP.more hN3 (by (try dsimp only); omega)), (TkI.keep hTk _ _ _ _ (by assumption)), by (try dsimp only); omega, hr9, hDSb, hS, hA, hA2, hA3, hleBd1, hb9⟩
       ·(try dsimp only); omega
     ·refine VC_exit (VQ_then_exit (VQ_then_exit (VQ_block_hit (Vn (Vs (Vrp (VC_block ?_)))))))
      have hNq : NdP wp nd1 XJ lo1 (roomsN rs) (delAll LJ (TJ.take 0)) 3000 := by rw [List.take_zero, delAll_nil]; exact NdP.more hNp (by omega)
      refine VC_loop (σ := Nat × (Nat → Prop)) (fun σs => [(7, Pt nd1 0), (8, Pt nw1 0), (10, .slice A9 m9 c9), (117, I6 ((m9 : Nat) : Int)), (118, I6 ((σs.1 : Nat) : Int))]) (fun σs wq => σs.1 ≤ m9 ∧ NdP wq nd1 σs.2 lo1 (roomsN rs) (delAll LJ (TJ.take σs.1)) (3000 + 2 * σs.1) ∧ (RwS wq 3 base9 30 A9 m9 c9 (flat keyc TJ)) ∧ (DnP wq nw1 XT lo2 Bd1 (roomsN rs) LT) ∧ (Step No w wq) ∧ (Sl wq w.heap.size A (iL .i64 rs)) ∧ (Sl wq w.heap.size A2 (flat opc os)) ∧ (Sl wq w.heap.size A3 (flat opc os3)) ∧ (Bd1 ≤ wq.heap.size) ∧ (base9 ≤ wq.heap.size)) (fun σs wq => m9 - σs.1) ⟨0, XJ⟩ Su ?_ ?_
      ·exact ⟨Nat.zero_le _, hNq, hr9, hDSb, hS, hA, hA2, hA3, hleBd1, hb9⟩
      rintro ⟨qS, XQ⟩ wq ⟨hq0, hNq9, hr9, hDSb, hS, hA, hA2, hA3, hleBd1, hb9⟩
      try dsimp only at hq0 hNq9 hr9 hDSb hS hA hA2 hA3 hleBd1 hb9 ⊢
      refine Vrp (Vs (Vid (((qS : Nat) : Int) < ((m9 : Nat) : Int)) (fun h8 => ?_) (fun h8 => ?_)))
      ·refine VC_skip (Vn (Vs (VC_block (Vrp (Vs ?_)))))
       obtain ⟨g1, cur1, rfl, hgbg1, hglg1, -⟩ := RwS.open hr9 (by omega)
       refine Vr (Vp 3 (VL_index (d := 124) (b := g1) (o := 0) (len := m9) (sz := 3) (m := ((qS : Nat) : Int)) (by kernel_rfl) (by kernel_rfl) qS (by rfl) (by omega) (qS * 3) (by omega) ?_))
       obtain ⟨y3, hy3⟩ : ∃ x, TJ[qS]? = some x := ⟨_, List.getElem?_eq_getElem (by have hq9 : TJ.length = m9 := hlr; omega)⟩
       refine Vla 4 (t := 30) (a := ⟨g1, qS * 3, none⟩) (v := .agg #[I6 y3.p, I6 y3.v, I6 y3.c]) (Sl.flatAgg (sz := 3) (RwS.sl2 hr9).sl keyc_len hy3 0 3 (by kernel_rfl) (by decide) _ (by first | rfl | omega)) ?_
       refine Vc 5 Tryz.call14 (ndrop hNq9 y3.p y3.v y3.c) ?_
       rintro _ w26 ⟨rfl, X8, hN4, hXg7, hc12⟩
       replace hr9 := RwS_nd hNq9 hr9 (by decide) hc12
       replace hDSb := DnP.byN hDSb hNq9 hc12
       replace hS := Step.transNew hS hc12 (fun i9 hi9 hX9 => by have h8 := NdP.low hNq9 hX9; omega)
       replace hA := hA.step hc12 (fun k9 hk9 hX9 => by have h8 := NdP.low hNq9 hX9; omega)
       replace hA2 := hA2.step hc12 (fun k9 hk9 hX9 => by have h8 := NdP.low hNq9 hX9; omega)
       replace hA3 := hA3.step hc12 (fun k9 hk9 hX9 => by have h8 := NdP.low hNq9 hX9; omega)
       replace hleBd1 := Nat.le_trans hleBd1 (Step.size hc12)
       replace hb9 := Nat.le_trans hb9 (Step.size hc12)
       refine VL_pure 8 [7, 8, 10, 117, 118, 12, 128] [(7, Pt nd1 0), (8, Pt nw1 0), (10, .slice (some ⟨g1, 0, none⟩) m9 c9), (117, I6 ((m9 : Nat) : Int)), (118, I6 ((qS : Nat) : Int)), (12, I6 ((qS : Nat) : Int)), (128, Bo (!((findC (delAll LJ (TJ.take qS)) y3.p y3.v y3.c).isSome)))] (by kernel_rfl) rfl (VL_known ((findC (delAll LJ (TJ.take qS)) y3.p y3.v y3.c).isSome) (fun bV => [(7, Pt nd1 0), (8, Pt nw1 0), (10, .slice (some ⟨g1, 0, none⟩) m9 c9), (117, I6 ((m9 : Nat) : Int)), (118, I6 ((qS : Nat) : Int)), (12, I6 ((qS : Nat) : Int)), (128, Bo (!bV))]) true rfl (hTk.there hy3) (Vp 11 (VL_index (d := 132) (b := g1) (o := 0) (len := m9) (sz := 3) (m := ((qS : Nat) : Int)) (by kernel_rfl) (by kernel_rfl) qS (by rfl) (by omega) (qS * 3) (by omega) (Vla 12 (t := 30) (a := ⟨g1, qS * 3, none⟩) (v := .agg #[I6 y3.p, I6 y3.v, I6 y3.c]) (Sl.flatAgg (sz := 3) (RwS.sl2 hr9).sl keyc_len hy3 0 3 (by kernel_rfl) (by decide) _ (by first | rfl | omega)) ?_))))
       refine Vc 13 Tryz.call14 (ndrop hN4 y3.p y3.v y3.c) ?_
       rintro _ w27 ⟨rfl, X9, hN5, hXg8, hc13⟩
       replace hr9 := RwS_nd hN4 hr9 (by decide) hc13
       replace hDSb := DnP.byN hDSb hN4 hc13
       replace hS := Step.transNew hS hc13 (fun i9 hi9 hX9 => by have h8 := NdP.low hN4 hX9; omega)
       replace hA := hA.step hc13 (fun k9 hk9 hX9 => by have h8 := NdP.low hN4 hX9; omega)
       replace hA2 := hA2.step hc13 (fun k9 hk9 hX9 => by have h8 := NdP.low hN4 hX9; omega)
       replace hA3 := hA3.step hc13 (fun k9 hk9 hX9 => by have h8 := NdP.low hN4 hX9; omega)
       replace hleBd1 := Nat.le_trans hleBd1 (Step.size hc13)
       replace hb9 := Nat.le_trans hb9 (Step.size hc13)
       refine Ve (Vn (Viz (b := (findC (delC (delAll LJ (TJ.take qS)) y3.p y3.v y3.c) y3.p y3.v y3.c).isSome) (by rw [del_gone]; rfl) (VC_skip (VQ_block_normal (Vn (Vr (Vp 1 ?_)))))))
       have he7 : IntKind.wrap .i64 (((qS : Nat) : Int) + 1) = ((qS + 1 : Nat) : Int) := TDakaa
       refine Vq 136 (I6 (IntKind.wrap .i64 (((qS : Nat) : Int) + 1))) (I6 ((qS + 1 : Nat) : Int)) (by rw [he7]) (Ve (VQ_again ⟨qS + 1, X9⟩ Su ?_ ?_))
       ·exact ⟨by (try dsimp only); omega, (by have h9 := hN5; rw [delAll_next hy3] at h9; exact NdP.more h9 (by omega)), hr9, hDSb, hS, hA, hA2, hA3, hleBd1, hb9⟩
       ·(try dsimp only); omega
      ·refine VC_exit (VQ_then_exit (VQ_then_exit (VQ_block_hit (Vn (Vs ?_)))))
       have hLe : delAll LJ (TJ.take qS) = LS := by rw [List.take_of_length_le (by omega)]; exact hTk.back
       rw [hLe] at hNq9
       refine Vr (Vp 2 ?_)
       refine Vc 2 Tryz.call18 (dsame hNq9 hDSb hst) ?_
       rintro _ w28 ⟨rfl, hc14⟩
       replace hS := Step.trans hS hc14
       refine Ve (Vn (VC_ret (Vr1 (Bo true) ?_)))
       exact ⟨rfl, hS⟩

end Go.Proofs.YthchmlidobgkoaaGreat
end
