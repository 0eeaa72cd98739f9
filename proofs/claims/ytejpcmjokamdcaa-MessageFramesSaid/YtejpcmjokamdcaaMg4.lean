import Derived.Test.YtejpcmjokamdcaaProg
import Derived.Laws.Strings
import Derived.Test.YtejpcmjokamdcaaMg3
section
/- Layer 16: Cause, both sides; awake. -/
set_option linter.unusedVariables false
set_option linter.unusedSimpArgs false
namespace Go.Proofs.Ytejpcmjokamdcaa
open Go.Vc Go.RowKit

def mcause (L : List IeD) : Int := match L.find? (fun y => decide (y.1 = 8)) with
  | some y => rcV y.1 y.2
  | none => 0
theorem find_vals (l : List IeV) (id : Int) : (vals l).find? (fun y => decide (y.1 = id)) = (l.find? (isId id)).map IeV.val := by
  induction l with
  | nil => rfl
  | cons x r ih =>
    show (x.val :: vals r).find? _ = _
    by_cases h : x.id = id
    · rw [List.find?_cons_of_pos (by simp [IeV.val, h]), List.find?_cons_of_pos (by simp [isId, h])]; rfl
    · rw [List.find?_cons_of_neg (by simp [IeV.val, h]), List.find?_cons_of_neg (by simp [isId, h]), ih]
theorem mcause_no {l : List IeV} (h : l.find? (isId 8) = none) : mcause (vals l) = 0 := by
  unfold mcause
  rw [find_vals, h]; rfl
theorem mcause_yes {l : List IeV} {y : IeV} (h : l.find? (isId 8) = some y) : mcause (vals l) = rcV y.id y.bs := by
  unfold mcause
  rw [find_vals, h]; rfl
set_option maxRecDepth 100000 in
set_option maxHeartbeats 4000000 in
theorem rfind_any (A : Option Addr) (n c lo hi : Nat) (l : List IeV) (w : World) (hn : l.length = n) (hA : Ies w lo hi A l) (id : Int) (hlen : n ≤ 1000000) (hhi : hi ≤ w.heap.size) :
  CV Try.prog 46 #[.slice A n c, .int .u8 id] w (fun x w1 => FindR w w1 x l id) := by
 have hS : Step No w w := Step.refl _ _
 refine CV_enter Try.f46 _ 25 [(0, .slice A n c), (1, .int .u8 id)] Try.func46 rfl rfl (by kernel_rfl) rfl ?_
 refine VC_seq ?_
 refine VC_region ?_
 have hzs1 := hS.size
 refine VL_box (d := 4) (t := 60) (c := #[.int .u8 0, .slice none 0 0]) (by kernel_rfl) (by kernel_rfl) ?_
 intro b1 w1 hn1
 replace hS := Step.trans hS (hn1.step No)
 replace hA := hA.no (hn1.step No)
 have ho1 := hn1.own
 have hzhn1 := hn1.size
 have hqhn1 := hn1.eqb
 refine VL_pure 2 [0, 1, 4] [(0, .slice A n c), (1, .int .u8 id), (4, .pointer (some ⟨b1, 0, none⟩))] (by kernel_rfl) rfl ?_
 refine VL_end (by kernel_rfl) ?_
 refine VQ_next ?_
 refine VC_seq ?_
 refine VC_seq ?_
 refine VC_region ?_
 refine VL_pure 3 [0, 1, 4, 8, 9] [(0, .slice A n c), (1, .int .u8 id), (4, .pointer (some ⟨b1, 0, none⟩)), (8, .int .i64 ((n : Nat) : Int)), (9, .int .i64 0)] (by kernel_rfl) rfl ?_
 refine VL_end (by kernel_rfl) ?_
 refine VQ_next ?_
 refine VC_block ?_
 refine VC_loop (σ := Nat) (fun σs => [(0, .slice A n c), (1, .int .u8 id), (4, .pointer (some ⟨b1, 0, none⟩)), (8, .int .i64 ((n : Nat) : Int)), (9, .int .i64 ((σs : Nat) : Int))]) (fun σs w2 => (σs ≤ n) ∧ (∀ i y, i < σs → l[i]? = some y → y.id ≠ id) ∧ (Step No w w2) ∧ (Ies w2 lo hi A l) ∧ (Own w2 b1 #[.int .u8 0, .slice none 0 0] 60)) (fun σs w2 => n - σs) 0 ⟨rfl, rfl, rfl, rfl, rfl, trivial⟩ ?_ ?_
 ·exact ⟨Nat.zero_le _, fun i y hi => absurd hi (Nat.not_lt_zero _), hS, hA, ho1⟩
 rintro j w2 ⟨hj, hz, hS, hA, ho1⟩
 try dsimp only at hj hz hS hA ho1 ⊢
 refine VC_seq ?_
 refine VC_region ?_
 refine VL_pure 1 [0, 1, 4, 8, 9, 10] [(0, .slice A n c), (1, .int .u8 id), (4, .pointer (some ⟨b1, 0, none⟩)), (8, .int .i64 ((n : Nat) : Int)), (9, .int .i64 ((j : Nat) : Int)), (10, .bool (decide (((j : Nat) : Int) < ((n : Nat) : Int))))] (by kernel_rfl) rfl ?_
 refine VL_end (by kernel_rfl) ?_
 refine VQ_next ?_
 refine VC_seq ?_
 refine VC_dec (((j : Nat) : Int) < ((n : Nat) : Int)) (by kernel_rfl) (fun h1 => ?_) (fun h1 => ?_)
 ·refine VC_skip ?_
  refine VQ_next ?_
  refine VC_seq ?_
  refine VC_block ?_
  refine VC_seq ?_
  refine VC_region ?_
  refine VL_pure 2 [0, 1, 4, 8, 9, 6] [(0, .slice A n c), (1, .int .u8 id), (4, .pointer (some ⟨b1, 0, none⟩)), (8, .int .i64 ((n : Nat) : Int)), (9, .int .i64 ((j : Nat) : Int)), (6, .int .i64 ((j : Nat) : Int))] (by kernel_rfl) rfl ?_
  refine VL_end (by kernel_rfl) ?_
  refine VQ_next ?_
  refine VC_seq ?_
  refine VC_region ?_
  refine VL_pure 2 [0, 1, 4, 8, 9, 6, 12, 13] [(0, .slice A n c), (1, .int .u8 id), (4, .pointer (some ⟨b1, 0, none⟩)), (8, .int .i64 ((n : Nat) : Int)), (9, .int .i64 ((j : Nat) : Int)), (6, .int .i64 ((j : Nat) : Int)), (12, .slice A n c), (13, .int .i64 ((j : Nat) : Int))] (by kernel_rfl) rfl ?_
  obtain ⟨sb1, so1, rfl, hlbsb1⟩ := hA.open (by omega)
  refine VL_index (d := 14) (b := sb1) (o := so1) (len := n) (sz := 2) (m := ((j : Nat) : Int)) (by kernel_rfl) (by kernel_rfl) j (by rfl) (by omega) (so1 + j * 2) (by omega) ?_
  refine VL_pure 4 [0, 1, 4, 8, 9, 6, 15] [(0, .slice (some ⟨sb1, so1, none⟩) n c), (1, .int .u8 id), (4, .pointer (some ⟨b1, 0, none⟩)), (8, .int .i64 ((n : Nat) : Int)), (9, .int .i64 ((j : Nat) : Int)), (6, .int .i64 ((j : Nat) : Int)), (15, .pointer (some ⟨sb1, so1 + j * 2, none⟩))] (by kernel_rfl) rfl ?_
  obtain ⟨⟨x1i, x1A, x1n, x1c, x1b⟩, hx1⟩ : ∃ x, l[j]? = some x := ⟨_, List.getElem?_eq_getElem (by omega)⟩
  obtain ⟨hnx1, hcx1, hbx1⟩ := Ies.body hA hx1
  dsimp only at hnx1 hcx1 hbx1
  refine VL_load (d := 16) (t := 5) (a := ⟨sb1, so1 + j * 2, none⟩) (v := .int .u8 x1i) (by kernel_rfl) (by kernel_rfl) (Ies.ld0 hA (by kernel_rfl) hx1) ?_
  refine VL_pure 7 [0, 1, 4, 8, 9, 6, 18] [(0, .slice (some ⟨sb1, so1, none⟩) n c), (1, .int .u8 id), (4, .pointer (some ⟨b1, 0, none⟩)), (8, .int .i64 ((n : Nat) : Int)), (9, .int .i64 ((j : Nat) : Int)), (6, .int .i64 ((j : Nat) : Int)), (18, .bool (x1i == id))] (by kernel_rfl) rfl ?_
  refine VL_end (by kernel_rfl) ?_
  refine VQ_next ?_
  refine VC_eq x1i id (by kernel_rfl) (fun h2 => ?_) (fun h2 => ?_)
  ·refine VC_seq ?_
   refine VC_region ?_
   refine VL_pure 2 [4, 19, 20] [(4, .pointer (some ⟨b1, 0, none⟩)), (19, .slice (some ⟨sb1, so1, none⟩) n c), (20, .int .i64 ((j : Nat) : Int))] (by kernel_rfl) rfl ?_
   refine VL_index (d := 21) (b := sb1) (o := so1) (len := n) (sz := 2) (m := ((j : Nat) : Int)) (by kernel_rfl) (by kernel_rfl) j (by rfl) (by omega) (so1 + j * 2) (by omega) ?_
   refine VL_load (d := 22) (t := 60) (a := ⟨sb1, so1 + j * 2, none⟩) (v := .agg #[.int .u8 x1i, .slice x1A x1n x1c]) (by kernel_rfl) (by kernel_rfl) (Ies.ld hA (by kernel_rfl) hx1) ?_
   refine VL_store (b := b1) (o := 0) (vs := [.int .u8 x1i, .slice x1A x1n x1c]) (by kernel_rfl) (by kernel_rfl) ho1 (Nat.le_of_ble_eq_true (by kernel_rfl)) ?_
   intro w3 hw1
   replace hS := Step.transNew hS hw1.step (fun _ _ _ => by omega)
   replace hA := hA.step hw1.step (fun k hk1 hk2 (hF : k = b1) => by omega)
   replace hbx1 := hbx1.step hw1.step (fun k hk (hF : k = b1) => by omega)
   have ho2 : Own w3 b1 #[.int .u8 x1i, .slice x1A x1n x1c] 60 := Own.cast hw1.own (by kernel_rfl)
   have hzhw1 := hw1.same
   refine VL_pure 6 [4, 5] [(4, .pointer (some ⟨b1, 0, none⟩)), (5, .bool true)] (by kernel_rfl) rfl ?_
   refine VL_end (by kernel_rfl) ?_
   refine VQ_next ?_
   refine VC_ret ?_
   refine VQ_block_ret ?_
   refine VQ_then_ret ?_
   refine VQ_then_ret ?_
   refine VQ_block_ret ?_
   refine VQ_then_ret ?_
   refine VQ_retC1T1 (T := 60) (.agg #[.int .u8 x1i, .slice x1A x1n x1c]) (.bool true) (.inr rfl) rfl rfl rfl (Loads.ownL ho2 (n := 2) (by kernel_rfl) (by kernel_rfl) (by kernel_rfl)) ?_
   exact ⟨.inr ⟨_, find_yes (by dsimp only; assumption) hx1 hz, rfl⟩, hS⟩
  ·refine VC_skip ?_
   refine VQ_block_normal ?_
   refine VQ_next ?_
   refine VC_region ?_
   refine VL_pure 1 [0, 1, 4, 8, 23] [(0, .slice (some ⟨sb1, so1, none⟩) n c), (1, .int .u8 id), (4, .pointer (some ⟨b1, 0, none⟩)), (8, .int .i64 ((n : Nat) : Int)), (23, .int .i64 (IntKind.wrap .i64 (((j : Nat) : Int) + 1)))] (by kernel_rfl) rfl ?_
   have he1 : IntKind.wrap .i64 (((j : Nat) : Int) + 1) = ((j + 1 : Nat) : Int) := (by rw [wrap_i64 _ (by omega) (by omega)]; omega)
   refine VL_eq [(0, .slice (some ⟨sb1, so1, none⟩) n c), (1, .int .u8 id), (4, .pointer (some ⟨b1, 0, none⟩)), (8, .int .i64 ((n : Nat) : Int)), (23, .int .i64 ((j + 1 : Nat) : Int))] (by rw [he1]) ?_
   refine VL_pure 2 [0, 1, 4, 8, 9] [(0, .slice (some ⟨sb1, so1, none⟩) n c), (1, .int .u8 id), (4, .pointer (some ⟨b1, 0, none⟩)), (8, .int .i64 ((n : Nat) : Int)), (9, .int .i64 ((j + 1 : Nat) : Int))] (by kernel_rfl) rfl ?_
   refine VL_end (by kernel_rfl) ?_
   refine VQ_again (j + 1) ⟨rfl, rfl, rfl, rfl, rfl, trivial⟩ ?_ ?_
   ·exact ⟨(by omega), fun i y hi hy => by rcases Nat.lt_succ_iff_lt_or_eq.1 hi with h9 | rfl; exact hz i y h9 hy; rw [hx1] at hy; cases hy; dsimp only; assumption, hS, hA, ho1⟩
   ·(try dsimp only); omega
 ·refine VC_exit ?_
  refine VQ_then_exit ?_
  refine VQ_then_exit ?_
  refine VQ_block_hit ?_
  refine VQ_next ?_
  refine VC_seq ?_
  refine VC_region ?_
  refine VL_pure 1 [4, 24] [(4, .pointer (some ⟨b1, 0, none⟩)), (24, .agg #[.int .u8 0, .slice none 0 0])] (by kernel_rfl) rfl ?_
  refine VL_store (b := b1) (o := 0) (vs := [.int .u8 0, .slice none 0 0]) (by kernel_rfl) (by kernel_rfl) ho1 (Nat.le_of_ble_eq_true (by kernel_rfl)) ?_
  intro w4 hw2
  replace hS := Step.transNew hS hw2.step (fun _ _ _ => by omega)
  replace hA := hA.step hw2.step (fun k hk1 hk2 (hF : k = b1) => by omega)
  have ho3 : Own w4 b1 #[.int .u8 0, .slice none 0 0] 60 := Own.cast hw2.own (by kernel_rfl)
  have hzhw2 := hw2.same
  refine VL_pure 3 [4, 5] [(4, .pointer (some ⟨b1, 0, none⟩)), (5, .bool false)] (by kernel_rfl) rfl ?_
  refine VL_end (by kernel_rfl) ?_
  refine VQ_next ?_
  refine VC_ret ?_
  refine VQ_retC1T1 (T := 60) (.agg #[.int .u8 0, .slice none 0 0]) (.bool false) (.inr rfl) rfl rfl rfl (Loads.ownL ho3 (n := 2) (by kernel_rfl) (by kernel_rfl) (by kernel_rfl)) ?_
  exact ⟨.inl ⟨find_no hn (fun i y hi hy => hz i y (by omega) hy), rfl⟩, hS⟩

set_option maxRecDepth 100000 in
set_option maxHeartbeats 4000000 in
theorem mcause_any (r : Int) (bk : Bool) (k : Int) (A : Option Addr) (n c lo hi : Nat) (l : List IeV) (w : World) (hn : l.length = n) (hA : Ies w lo hi A l) (hlen : n ≤ 1000000) (hhi : hi ≤ w.heap.size) (hl : ∀ x ∈ l, IeB x) (hsm : ∀ x ∈ l, x.n < 1000000) :
  CV Try.prog 20 #[.agg #[.int .i64 r, .bool bk, .int .i64 k, .slice A n c]] w (fun x w1 => x = .int .i64 (mcause (vals l)) ∧ Step No w w1) := by
 have hS : Step No w w := Step.refl _ _
 refine CV_enter Try.f20 _ 21 [(0, .agg #[.int .i64 r, .bool bk, .int .i64 k, .slice A n c])] Try.func20 rfl rfl (by kernel_rfl) rfl ?_
 refine VC_seq ?_
 refine VC_region ?_
 have hzs1 := hS.size
 refine VL_box (d := 1) (t := 24) (c := #[.int .i64 r, .bool bk, .int .i64 k, .slice A n c]) (by kernel_rfl) (by kernel_rfl) ?_
 intro b1 w1 hn1
 replace hS := Step.trans hS (hn1.step No)
 replace hA := hA.no (hn1.step No)
 have ho1 := hn1.own
 have hzhn1 := hn1.size
 have hqhn1 := hn1.eqb
 refine VL_pure 2 [1] [(1, .pointer (some ⟨b1, 0, none⟩))] (by kernel_rfl) rfl ?_
 refine VL_end (by kernel_rfl) ?_
 refine VQ_next ?_
 refine VC_seq ?_
 refine VC_region ?_
 refine VL_pure 1 [8] [(8, .pointer (some ⟨b1, 3, none⟩))] (by kernel_rfl) rfl ?_
 refine VL_load (d := 9) (t := 22) (a := ⟨b1, 3, none⟩) (v := .slice A n c) (by kernel_rfl) (by kernel_rfl) (Loads.own1 ho1 (by kernel_rfl) (by rfl)) ?_
 have hzs2 := hS.size
 have hzl1 := ho1.lt
 refine VL_call (d := 10) (f := 36) (args := #[.slice A n c, .int .u8 8]) (by kernel_rfl) (by kernel_rfl) (by kernel_rfl) Try.call36 (find_any A n c lo hi l _ hn hA 8 (by omega) (by first | exact Nat.le_refl _ | omega)) ?_
 rintro _ w2 ⟨(⟨hF, rfl⟩ | ⟨⟨yi, yA, yn, yc, yb⟩, hF, rfl⟩), hc1⟩
 ·replace hS := Step.trans hS hc1
  replace hA := hA.no hc1
  replace ho1 := ho1.no hc1
  refine VL_pure 6 [11, 12] [(11, .agg #[.int .u8 0, .slice none 0 0]), (12, .bool false)] (by kernel_rfl) rfl ?_
  have hzs3 := hS.size
  have hzl2 := ho1.lt
  refine VL_box (d := 3) (t := 60) (c := #[.int .u8 0, .slice none 0 0]) (by kernel_rfl) (by kernel_rfl) ?_
  intro b2 w3 hn2
  replace hS := Step.trans hS (hn2.step No)
  replace hA := hA.no (hn2.step No)
  replace ho1 := ho1.no (hn2.step No)
  have ho2 := hn2.own
  have hzhn2 := hn2.size
  have hqhn2 := hn2.eqb
  refine VL_store (b := b2) (o := 0) (vs := [.int .u8 0, .slice none 0 0]) (by kernel_rfl) (by kernel_rfl) ho2 (Nat.le_of_ble_eq_true (by kernel_rfl)) ?_
  intro w4 hw1
  replace hS := Step.transNew hS hw1.step (fun _ _ _ => by omega)
  replace hA := hA.step hw1.step (fun k hk1 hk2 (hF : k = b2) => by omega)
  replace ho1 := ho1.step hw1.step (show ¬ b1 = b2 by omega)
  have ho3 : Own w4 b2 #[.int .u8 0, .slice none 0 0] 60 := Own.cast hw1.own (by kernel_rfl)
  have hzhw1 := hw1.same
  refine VL_pure 9 [3, 4] [(3, .pointer (some ⟨b2, 0, none⟩)), (4, .bool false)] (by kernel_rfl) rfl ?_
  refine VL_end (by kernel_rfl) ?_
  refine VQ_next ?_
  refine VC_seq ?_
  refine VC_seq ?_
  refine VC_region ?_
  refine VL_pure 2 [3, 14] [(3, .pointer (some ⟨b2, 0, none⟩)), (14, .bool true)] (by kernel_rfl) rfl ?_
  refine VL_end (by kernel_rfl) ?_
  refine VQ_next ?_
  refine VC_true (by kernel_rfl) ?_
  refine VC_seq ?_
  refine VC_region ?_
  refine VL_pure 1 [2] [(2, .int .i64 0)] (by kernel_rfl) rfl ?_
  refine VL_end (by kernel_rfl) ?_
  refine VQ_next ?_
  refine VC_ret ?_
  refine VQ_then_ret ?_
  refine VQ_ret1 (.int .i64 0) (.inr rfl) rfl rfl ?_
  exact ⟨congrArg (Value.int .i64) (mcause_no hF).symm, hS⟩
 ·replace hS := Step.trans hS hc1
  replace hA := hA.no hc1
  replace ho1 := ho1.no hc1
  have hyl := (find_in hF).1
  have hyn : yb.length = yn := (hA.all _ hyl).len
  have hys : yn < 1000000 := hsm _ hyl
  have hyc : yn ≤ yc := (hA.all _ hyl).cap
  have hyS : Sl w2 hi yA (iL .u8 yb) := (hA.all _ hyl).sl.sl
  have hyB : Bytes yb := (hl _ hyl).2
  dsimp only
  refine VL_pure 6 [11, 12] [(11, .agg #[.int .u8 yi, .slice yA yn yc]), (12, .bool true)] (by kernel_rfl) rfl ?_
  have hzs4 := hS.size
  have hzl3 := ho1.lt
  refine VL_box (d := 3) (t := 60) (c := #[.int .u8 0, .slice none 0 0]) (by kernel_rfl) (by kernel_rfl) ?_
  intro b3 w5 hn3
  replace hS := Step.trans hS (hn3.step No)
  replace hA := hA.no (hn3.step No)
  replace ho1 := ho1.no (hn3.step No)
  replace hyS := hyS.no (hn3.step No)
  have ho4 := hn3.own
  have hzhn3 := hn3.size
  have hqhn3 := hn3.eqb
  refine VL_store (b := b3) (o := 0) (vs := [.int .u8 yi, .slice yA yn yc]) (by kernel_rfl) (by kernel_rfl) ho4 (Nat.le_of_ble_eq_true (by kernel_rfl)) ?_
  intro w6 hw2
  replace hS := Step.transNew hS hw2.step (fun _ _ _ => by omega)
  replace hA := hA.step hw2.step (fun k hk1 hk2 (hF : k = b3) => by omega)
  replace ho1 := ho1.step hw2.step (show ¬ b1 = b3 by omega)
  replace hyS := hyS.step hw2.step (fun k hk (hF : k = b3) => by omega)
  have ho5 : Own w6 b3 #[.int .u8 yi, .slice yA yn yc] 60 := Own.cast hw2.own (by kernel_rfl)
  have hzhw2 := hw2.same
  refine VL_pure 9 [3, 4] [(3, .pointer (some ⟨b3, 0, none⟩)), (4, .bool true)] (by kernel_rfl) rfl ?_
  refine VL_end (by kernel_rfl) ?_
  refine VQ_next ?_
  refine VC_seq ?_
  refine VC_seq ?_
  refine VC_region ?_
  refine VL_pure 2 [3, 14] [(3, .pointer (some ⟨b3, 0, none⟩)), (14, .bool false)] (by kernel_rfl) rfl ?_
  refine VL_end (by kernel_rfl) ?_
  refine VQ_next ?_
  refine VC_false (by kernel_rfl) ?_
  refine VC_skip ?_
  refine VQ_next ?_
  refine VC_seq ?_
  refine VC_region ?_
  refine VL_load (d := 16) (t := 60) (a := ⟨b3, 0, none⟩) (v := .agg #[.int .u8 yi, .slice yA yn yc]) (by kernel_rfl) (by kernel_rfl) (Loads.ownL ho5 (n := 2) (by kernel_rfl) (by kernel_rfl) (by kernel_rfl)) ?_
  have hzs5 := hS.size
  have hzl4 := ho1.lt
  have hzl5 := ho5.lt
  refine VL_call (d := 17) (f := 37) (by kernel_rfl) (by kernel_rfl) (by kernel_rfl) Try.call37 (rdcause_any yi yA yn yc _ yb _ hyn (by omega) hyS hyB (by first | exact Nat.le_refl _ | omega)) ?_
  rintro _ w7 ⟨rfl, hc2⟩
  replace hS := Step.trans hS hc2
  replace hA := hA.no hc2
  replace ho1 := ho1.no hc2
  replace hyS := hyS.no hc2
  replace ho5 := ho5.no hc2
  refine VL_pure 7 [5] [(5, .int .i64 (rcV yi yb))] (by kernel_rfl) rfl ?_
  refine VL_end (by kernel_rfl) ?_
  refine VQ_next ?_
  refine VC_seq ?_
  refine VC_region ?_
  refine VL_pure 2 [2] [(2, .int .i64 (rcV yi yb))] (by kernel_rfl) rfl ?_
  refine VL_end (by kernel_rfl) ?_
  refine VQ_next ?_
  refine VC_ret ?_
  refine VQ_ret1 (.int .i64 (rcV yi yb)) (.inr rfl) rfl rfl ?_
  exact ⟨congrArg (Value.int .i64) (mcause_yes hF).symm, hS⟩

set_option maxRecDepth 100000 in
set_option maxHeartbeats 4000000 in
theorem rmcause_any (r : Int) (bk : Bool) (k : Int) (A : Option Addr) (n c lo hi : Nat) (l : List IeV) (w : World) (hn : l.length = n) (hA : Ies w lo hi A l) (hlen : n ≤ 1000000) (hhi : hi ≤ w.heap.size) (hl : ∀ x ∈ l, IeB x) (hsm : ∀ x ∈ l, x.n < 1000000) :
  CV Try.prog 27 #[.agg #[.int .i64 r, .bool bk, .int .i64 k, .slice A n c]] w (fun x w1 => x = .int .i64 (mcause (vals l)) ∧ Step No w w1) := by
 have hS : Step No w w := Step.refl _ _
 refine CV_enter Try.f27 _ 25 [(0, .agg #[.int .i64 r, .bool bk, .int .i64 k, .slice A n c])] Try.func27 rfl rfl (by kernel_rfl) rfl ?_
 refine VC_seq ?_
 refine VC_region ?_
 have hzs1 := hS.size
 refine VL_box (d := 1) (t := 24) (c := #[.int .i64 r, .bool bk, .int .i64 k, .slice A n c]) (by kernel_rfl) (by kernel_rfl) ?_
 intro b1 w1 hn1
 replace hS := Step.trans hS (hn1.step No)
 replace hA := hA.no (hn1.step No)
 have ho1 := hn1.own
 have hzhn1 := hn1.size
 have hqhn1 := hn1.eqb
 refine VL_pure 2 [1] [(1, .pointer (some ⟨b1, 0, none⟩))] (by kernel_rfl) rfl ?_
 refine VL_end (by kernel_rfl) ?_
 refine VQ_next ?_
 refine VC_seq ?_
 refine VC_region ?_
 refine VL_pure 1 [8] [(8, .pointer (some ⟨b1, 3, none⟩))] (by kernel_rfl) rfl ?_
 refine VL_load (d := 9) (t := 22) (a := ⟨b1, 3, none⟩) (v := .slice A n c) (by kernel_rfl) (by kernel_rfl) (Loads.own1 ho1 (by kernel_rfl) (by rfl)) ?_
 have hzs2 := hS.size
 have hzl1 := ho1.lt
 refine VL_call (d := 10) (f := 46) (args := #[.slice A n c, .int .u8 8]) (by kernel_rfl) (by kernel_rfl) (by kernel_rfl) Try.call46 (rfind_any A n c lo hi l _ hn hA 8 (by omega) (by first | exact Nat.le_refl _ | omega)) ?_
 rintro _ w2 ⟨(⟨hF, rfl⟩ | ⟨⟨yi, yA, yn, yc, yb⟩, hF, rfl⟩), hc1⟩
 ·replace hS := Step.trans hS hc1
  replace hA := hA.no hc1
  replace ho1 := ho1.no hc1
  refine VL_pure 6 [11, 12] [(11, .agg #[.int .u8 0, .slice none 0 0]), (12, .bool false)] (by kernel_rfl) rfl ?_
  have hzs3 := hS.size
  have hzl2 := ho1.lt
  refine VL_box (d := 3) (t := 60) (c := #[.int .u8 0, .slice none 0 0]) (by kernel_rfl) (by kernel_rfl) ?_
  intro b2 w3 hn2
  replace hS := Step.trans hS (hn2.step No)
  replace hA := hA.no (hn2.step No)
  replace ho1 := ho1.no (hn2.step No)
  have ho2 := hn2.own
  have hzhn2 := hn2.size
  have hqhn2 := hn2.eqb
  refine VL_store (b := b2) (o := 0) (vs := [.int .u8 0, .slice none 0 0]) (by kernel_rfl) (by kernel_rfl) ho2 (Nat.le_of_ble_eq_true (by kernel_rfl)) ?_
  intro w4 hw1
  replace hS := Step.transNew hS hw1.step (fun _ _ _ => by omega)
  replace hA := hA.step hw1.step (fun k hk1 hk2 (hF : k = b2) => by omega)
  replace ho1 := ho1.step hw1.step (show ¬ b1 = b2 by omega)
  have ho3 : Own w4 b2 #[.int .u8 0, .slice none 0 0] 60 := Own.cast hw1.own (by kernel_rfl)
  have hzhw1 := hw1.same
  refine VL_pure 9 [3, 4] [(3, .pointer (some ⟨b2, 0, none⟩)), (4, .bool false)] (by kernel_rfl) rfl ?_
  refine VL_end (by kernel_rfl) ?_
  refine VQ_next ?_
  refine VC_seq ?_
  refine VC_region ?_
  refine VL_load (d := 14) (t := 60) (a := ⟨b2, 0, none⟩) (v := .agg #[.int .u8 0, .slice none 0 0]) (by kernel_rfl) (by kernel_rfl) (Loads.ownL ho3 (n := 2) (by kernel_rfl) (by kernel_rfl) (by kernel_rfl)) ?_
  have hzs4 := hS.size
  have hzl3 := ho1.lt
  have hzl4 := ho3.lt
  refine VL_call (d := 15) (f := 49) (by kernel_rfl) (by kernel_rfl) (by kernel_rfl) Try.call49 (rrdcause_any 0 none 0 0 _ ([] : List Int) _ rfl (by omega) (Sl.nil (B := 0)) Bytes.nil (by first | exact Nat.le_refl _ | omega)) ?_
  rintro _ w5 ⟨rfl, hc2⟩
  replace hS := Step.trans hS hc2
  replace hA := hA.no hc2
  replace ho1 := ho1.no hc2
  replace ho3 := ho3.no hc2
  refine VL_pure 7 [4, 5, 6] [(4, .bool false), (5, .int .i64 (rcV 0 ([] : List Int))), (6, .int .i64 (rcE 0 ([] : List Int)))] (by kernel_rfl) rfl ?_
  refine VL_end (by kernel_rfl) ?_
  refine VQ_next ?_
  refine VC_seq ?_
  refine VC_seq ?_
  refine VC_region ?_
  refine VL_pure 6 [5, 23] [(5, .int .i64 (rcV 0 ([] : List Int))), (23, .bool true)] (by kernel_rfl) rfl ?_
  refine VL_end (by kernel_rfl) ?_
  refine VQ_next ?_
  refine VC_true (by kernel_rfl) ?_
  refine VC_seq ?_
  refine VC_region ?_
  refine VL_pure 1 [2] [(2, .int .i64 0)] (by kernel_rfl) rfl ?_
  refine VL_end (by kernel_rfl) ?_
  refine VQ_next ?_
  refine VC_ret ?_
  refine VQ_then_ret ?_
  refine VQ_ret1 (.int .i64 0) (.inr rfl) rfl rfl ?_
  exact ⟨congrArg (Value.int .i64) (mcause_no hF).symm, hS⟩
 ·replace hS := Step.trans hS hc1
  replace hA := hA.no hc1
  replace ho1 := ho1.no hc1
  have hyl := (find_in hF).1
  have hyn : yb.length = yn := (hA.all _ hyl).len
  have hys : yn < 1000000 := hsm _ hyl
  have hyc : yn ≤ yc := (hA.all _ hyl).cap
  have hyS : Sl w2 hi yA (iL .u8 yb) := (hA.all _ hyl).sl.sl
  have hyB : Bytes yb := (hl _ hyl).2
  dsimp only
  refine VL_pure 6 [11, 12] [(11, .agg #[.int .u8 yi, .slice yA yn yc]), (12, .bool true)] (by kernel_rfl) rfl ?_
  have hzs5 := hS.size
  have hzl5 := ho1.lt
  refine VL_box (d := 3) (t := 60) (c := #[.int .u8 0, .slice none 0 0]) (by kernel_rfl) (by kernel_rfl) ?_
  intro b3 w6 hn3
  replace hS := Step.trans hS (hn3.step No)
  replace hA := hA.no (hn3.step No)
  replace ho1 := ho1.no (hn3.step No)
  replace hyS := hyS.no (hn3.step No)
  have ho4 := hn3.own
  have hzhn3 := hn3.size
  have hqhn3 := hn3.eqb
  refine VL_store (b := b3) (o := 0) (vs := [.int .u8 yi, .slice yA yn yc]) (by kernel_rfl) (by kernel_rfl) ho4 (Nat.le_of_ble_eq_true (by kernel_rfl)) ?_
  intro w7 hw2
  replace hS := Step.transNew hS hw2.step (fun _ _ _ => by omega)
  replace hA := hA.step hw2.step (fun k hk1 hk2 (hF : k = b3) => by omega)
  replace ho1 := ho1.step hw2.step (show ¬ b1 = b3 by omega)
  replace hyS := hyS.step hw2.step (fun k hk (hF : k = b3) => by omega)
  have ho5 : Own w7 b3 #[.int .u8 yi, .slice yA yn yc] 60 := Own.cast hw2.own (by kernel_rfl)
  have hzhw2 := hw2.same
  refine VL_pure 9 [3, 4] [(3, .pointer (some ⟨b3, 0, none⟩)), (4, .bool true)] (by kernel_rfl) rfl ?_
  refine VL_end (by kernel_rfl) ?_
  refine VQ_next ?_
  refine VC_seq ?_
  refine VC_region ?_
  refine VL_load (d := 14) (t := 60) (a := ⟨b3, 0, none⟩) (v := .agg #[.int .u8 yi, .slice yA yn yc]) (by kernel_rfl) (by kernel_rfl) (Loads.ownL ho5 (n := 2) (by kernel_rfl) (by kernel_rfl) (by kernel_rfl)) ?_
  have hzs6 := hS.size
  have hzl6 := ho1.lt
  have hzl7 := ho5.lt
  refine VL_call (d := 15) (f := 49) (by kernel_rfl) (by kernel_rfl) (by kernel_rfl) Try.call49 (rrdcause_any yi yA yn yc _ yb _ hyn (by omega) hyS hyB (by first | exact Nat.le_refl _ | omega)) ?_
  rintro _ w8 ⟨rfl, hc3⟩
  replace hS := Step.trans hS hc3
  replace hA := hA.no hc3
  replace ho1 := ho1.no hc3
  replace hyS := hyS.no hc3
  replace ho5 := ho5.no hc3
  refine VL_pure 7 [4, 5, 6] [(4, .bool true), (5, .int .i64 (rcV yi yb)), (6, .int .i64 (rcE yi yb))] (by kernel_rfl) rfl ?_
  refine VL_end (by kernel_rfl) ?_
  refine VQ_next ?_
  refine VC_seq ?_
  refine VC_seq ?_
  refine VC_region ?_
  refine VL_pure 6 [5, 23] [(5, .int .i64 (rcV yi yb)), (23, .bool ((rcE yi yb) != 0))] (by kernel_rfl) rfl ?_
  refine VL_end (by kernel_rfl) ?_
  refine VQ_next ?_
  refine VC_ne (rcE yi yb) 0 (by kernel_rfl) (fun h1 => ?_) (fun h1 => ?_)
  ·refine VC_seq ?_
   refine VC_region ?_
   refine VL_pure 1 [2] [(2, .int .i64 0)] (by kernel_rfl) rfl ?_
   refine VL_end (by kernel_rfl) ?_
   refine VQ_next ?_
   refine VC_ret ?_
   refine VQ_then_ret ?_
   refine VQ_ret1 (.int .i64 0) (.inr rfl) rfl rfl ?_
   exact ⟨congrArg (Value.int .i64) ((mcause_yes hF).trans (rcV_n (by assumption))).symm, hS⟩
  ·refine VC_skip ?_
   refine VQ_next ?_
   refine VC_seq ?_
   refine VC_region ?_
   refine VL_pure 2 [2] [(2, .int .i64 (rcV yi yb))] (by kernel_rfl) rfl ?_
   refine VL_end (by kernel_rfl) ?_
   refine VQ_next ?_
   refine VC_ret ?_
   refine VQ_ret1 (.int .i64 (rcV yi yb)) (.inr rfl) rfl rfl ?_
   exact ⟨congrArg (Value.int .i64) (mcause_yes hF).symm, hS⟩

theorem awk_ieb {A : Option Addr} : ∀ x ∈ [(⟨8, A, 2, 2, [0, 35]⟩ : IeV)], IeB x := by
  intro x hx
  simp only [List.mem_cons, List.mem_nil_iff, or_false] at hx
  subst hx
  exact ⟨by dsimp only; omega, by intro y hy; simp only [List.mem_cons, List.mem_nil_iff, or_false] at hy; omega⟩
theorem awkM {A : Option Addr} : msgE 5 false 90 (vals [⟨8, A, 2, 2, [0, 35]⟩]) = 0 ∧ msgT 5 false 90 (vals [⟨8, A, 2, 2, [0, 35]⟩]) = [9, 3, 0, 0, 5, 90, 128, 0, 6, 8, 128, 0, 2, 0, 35] := by
  have h : vals [⟨8, A, 2, 2, [0, 35]⟩] = [(8, [0, 35])] := rfl
  rw [h]
  constructor <;> decide +kernel
theorem awkB {A : Option Addr} : Bytes (msgT 5 false 90 (vals [⟨8, A, 2, 2, [0, 35]⟩])) := by
  rw [awkM.2]; intro x hx; simp only [List.mem_cons, List.mem_nil_iff, or_false] at hx; omega
theorem awkU {A : Option Addr} : muE (msgT 5 false 90 (vals [⟨8, A, 2, 2, [0, 35]⟩])) = 0 ∧ muR (msgT 5 false 90 (vals [⟨8, A, 2, 2, [0, 35]⟩])) = 5 ∧ muL (msgT 5 false 90 (vals [⟨8, A, 2, 2, [0, 35]⟩])) = [(8, [0, 35])] := by
  obtain ⟨h1, h2, _, _, h5⟩ := msg_there (awkM (A := A)).1
  exact ⟨h1, h2, h5⟩
theorem awkC : mcause [(8, [0, 35])] = 35 := by decide +kernel
set_option maxRecDepth 100000 in
set_option maxHeartbeats 4000000 in
theorem awake_any (w : World) :
  CV Try.prog 9 #[] w (fun x w1 => x = .bool true ∧ Step No w w1) := by
 have hS : Step No w w := Step.refl _ _
 refine CV_enter Try.f9 _ 39 [] Try.func9 rfl rfl (by kernel_rfl) rfl ?_
 refine VC_seq ?_
 refine VC_region ?_
 refine VL_pure 1 [] [] (by kernel_rfl) rfl ?_
 refine VL_end (by kernel_rfl) ?_
 refine VQ_next ?_
 refine VC_seq ?_
 refine VC_region ?_
 have hzs1 := hS.size
 refine VL_bs (d := 6) (e := 5) (c := #[.int .u8 0, .int .u8 35]) (len := 2) (by kernel_rfl) (by kernel_rfl) ?_
 intro b1 w1 hn1
 replace hS := Step.trans hS (hn1.step No)
 have ho1 := hn1.own
 have hzhn1 := hn1.size
 have hqhn1 := hn1.eqb
 refine VL_pure 2 [7] [(7, .agg #[.int .u8 8, .slice (some ⟨b1, 0, none⟩) 2 2])] (by kernel_rfl) rfl ?_
 have hzs2 := hS.size
 have hzl1 := ho1.lt
 refine VL_bs (d := 8) (e := 60) (c := #[.int .u8 8, .slice (some ⟨b1, 0, none⟩) 2 2]) (len := 1) (by kernel_rfl) (by kernel_rfl) ?_
 intro b2 w2 hn2
 replace hS := Step.trans hS (hn2.step No)
 replace ho1 := ho1.no (hn2.step No)
 have ho2 := hn2.own
 have hzhn2 := hn2.size
 have hqhn2 := hn2.eqb
 refine VL_pure 4 [9] [(9, .agg #[.int .i64 5, .bool false, .int .i64 90, .slice (some ⟨b2, 0, none⟩) 1 1])] (by kernel_rfl) rfl ?_
 have hI1 : Ies w2 0 w2.heap.size (some ⟨b2, 0, none⟩) [⟨8, (some ⟨b1, 0, none⟩), 2, 2, [0, 35]⟩] := ⟨Sl.sl2 (Own.sl ho2 ho2.lt), by intro x hx; simp only [List.mem_cons, List.mem_nil_iff, or_false] at hx; subst hx <;> first | exact ⟨rfl, by (try dsimp only); omega, Sl.sl2 (Sl.mono (Own.sl ho1 ho1.lt) (by first | exact Nat.le_refl _ | omega))⟩⟩
 have hzs3 := hS.size
 have hzl2 := ho1.lt
 have hzl3 := ho2.lt
 refine VL_call (d := 10) (f := 11) (by kernel_rfl) (by kernel_rfl) (by kernel_rfl) Try.call11 (msgpack_any 5 false 90 (some ⟨b2, 0, none⟩) 1 1 0 w2.heap.size ([⟨8, (some ⟨b1, 0, none⟩), 2, 2, [0, 35]⟩]) _ rfl hI1 (by omega) (by first | exact Nat.le_refl _ | omega)) ?_
 rintro _ w3 ⟨A1, c1, rfl, hr1, hc1⟩
 replace hS := Step.trans hS hc1
 replace ho1 := ho1.no hc1
 replace ho2 := ho2.no hc1
 obtain ⟨base1, hbase1E⟩ : ∃ x, x = w2.heap.size := ⟨_, rfl⟩
 rw [← hbase1E] at hr1
 have hbase1 : base1 ≤ w3.heap.size := by rw [hbase1E]; exact hc1.size
 have hmlq1 := msgT_le 5 false 90 (vals ([⟨8, (some ⟨b1, 0, none⟩), 2, 2, [0, 35]⟩]))
 refine VL_pure 10 [1, 2] [(1, .slice A1 ((msgT 5 false 90 (vals ([⟨8, (some ⟨b1, 0, none⟩), 2, 2, [0, 35]⟩]))).length) c1), (2, .int .i64 (msgE 5 false 90 (vals ([⟨8, (some ⟨b1, 0, none⟩), 2, 2, [0, 35]⟩]))))] (by kernel_rfl) rfl ?_
 refine VL_end (by kernel_rfl) ?_
 refine VQ_next ?_
 refine VC_seq ?_
 refine VC_region ?_
 refine VL_pure 1 [1, 2, 14] [(1, .slice A1 ((msgT 5 false 90 (vals ([⟨8, (some ⟨b1, 0, none⟩), 2, 2, [0, 35]⟩]))).length) c1), (2, .int .i64 (msgE 5 false 90 (vals ([⟨8, (some ⟨b1, 0, none⟩), 2, 2, [0, 35]⟩])))), (14, .slice A1 ((msgT 5 false 90 (vals ([⟨8, (some ⟨b1, 0, none⟩), 2, 2, [0, 35]⟩]))).length) c1)] (by kernel_rfl) rfl ?_
 have hzs4 := hS.size
 have hzl4 := ho1.lt
 have hzl5 := ho2.lt
 refine VL_call (d := 15) (f := 13) (by kernel_rfl) (by kernel_rfl) (by kernel_rfl) Try.call13 (msgun_any A1 ((msgT 5 false 90 (vals ([⟨8, (some ⟨b1, 0, none⟩), 2, 2, [0, 35]⟩]))).length) c1 _ (msgT 5 false 90 (vals ([⟨8, (some ⟨b1, 0, none⟩), 2, 2, [0, 35]⟩]))) _ (Rw.lenI hr1) (Rw.slI hr1) (by have hq9 := Rw.cap hr1; omega) awkB (by omega) (by first | exact Nat.le_refl _ | omega)) ?_
 rintro _ w4 ⟨Ai1, ci1, li1, rfl, hv1, hI2, hc2⟩
 replace hS := Step.trans hS hc2
 replace ho1 := ho1.no hc2
 replace ho2 := ho2.no hc2
 replace hbase1 := Nat.le_trans hbase1 (hc2).size
 replace hr1 := hr1.no hc2
 have hleli1 : w4.heap.size ≤ w4.heap.size := Nat.le_refl _
 have hV1 := Ier.ies hI2
 have hcntli1 : li1.length ≤ 16 := by rw [← vals_len, hv1]; exact muL_count (msgT 5 false 90 (vals ([⟨8, (some ⟨b1, 0, none⟩), 2, 2, [0, 35]⟩])))
 have hcali1 : li1.length ≤ ci1 := RwS.cap hI2.row
 have hibli1 : ∀ x ∈ li1, IeB x := mu_ieb hv1 awkB
 have hsmli1 : ∀ x ∈ li1, x.n ≤ 200 := mu_small hV1 hv1 awkB
 refine VL_pure 5 [1, 2, 16, 17] [(1, .slice A1 ((msgT 5 false 90 (vals ([⟨8, (some ⟨b1, 0, none⟩), 2, 2, [0, 35]⟩]))).length) c1), (2, .int .i64 (msgE 5 false 90 (vals ([⟨8, (some ⟨b1, 0, none⟩), 2, 2, [0, 35]⟩])))), (16, .agg #[.int .i64 (muR (msgT 5 false 90 (vals ([⟨8, (some ⟨b1, 0, none⟩), 2, 2, [0, 35]⟩])))), .bool (muB (msgT 5 false 90 (vals ([⟨8, (some ⟨b1, 0, none⟩), 2, 2, [0, 35]⟩])))), .int .i64 (muK (msgT 5 false 90 (vals ([⟨8, (some ⟨b1, 0, none⟩), 2, 2, [0, 35]⟩])))), .slice Ai1 li1.length ci1]), (17, .int .i64 (muE (msgT 5 false 90 (vals ([⟨8, (some ⟨b1, 0, none⟩), 2, 2, [0, 35]⟩])))))] (by kernel_rfl) rfl ?_
 have hzs5 := hS.size
 have hzl6 := ho1.lt
 have hzl7 := ho2.lt
 have hzk1 := hbase1
 have hzk2 := hleli1
 have hub1 := hr1.ub
 refine VL_box (d := 3) (t := 24) (c := #[.int .i64 0, .bool false, .int .i64 0, .slice none 0 0]) (by kernel_rfl) (by kernel_rfl) ?_
 intro b3 w5 hn3
 replace hS := Step.trans hS (hn3.step No)
 replace ho1 := ho1.no (hn3.step No)
 replace ho2 := ho2.no (hn3.step No)
 replace hbase1 := Nat.le_trans hbase1 (hn3.step No).size
 replace hr1 := hr1.no (hn3.step No)
 replace hV1 := hV1.no (hn3.step No)
 replace hleli1 := Nat.le_trans hleli1 (hn3.step No).size
 have ho3 := hn3.own
 have hzhn3 := hn3.size
 have hqhn3 := hn3.eqb
 refine VL_store (b := b3) (o := 0) (vs := [.int .i64 (muR (msgT 5 false 90 (vals ([⟨8, (some ⟨b1, 0, none⟩), 2, 2, [0, 35]⟩])))), .bool (muB (msgT 5 false 90 (vals ([⟨8, (some ⟨b1, 0, none⟩), 2, 2, [0, 35]⟩])))), .int .i64 (muK (msgT 5 false 90 (vals ([⟨8, (some ⟨b1, 0, none⟩), 2, 2, [0, 35]⟩])))), .slice Ai1 li1.length ci1]) (by kernel_rfl) (by kernel_rfl) ho3 (Nat.le_of_ble_eq_true (by kernel_rfl)) ?_
 intro w6 hw1
 replace hS := Step.transNew hS hw1.step (fun _ _ _ => by omega)
 replace ho1 := ho1.step hw1.step (show ¬ b1 = b3 by omega)
 replace ho2 := ho2.step hw1.step (show ¬ b2 = b3 by omega)
 replace hbase1 := Nat.le_trans hbase1 (hw1.step).size
 replace hr1 := hr1.stepU hub1 hw1.step (fun k hk1 hk2 (hF : k = b3) => by omega)
 replace hV1 := hV1.step hw1.step (fun k hk1 hk2 (hF : k = b3) => by omega)
 replace hleli1 := Nat.le_trans hleli1 (hw1.step).size
 have ho4 : Own w6 b3 #[.int .i64 (muR (msgT 5 false 90 (vals ([⟨8, (some ⟨b1, 0, none⟩), 2, 2, [0, 35]⟩])))), .bool (muB (msgT 5 false 90 (vals ([⟨8, (some ⟨b1, 0, none⟩), 2, 2, [0, 35]⟩])))), .int .i64 (muK (msgT 5 false 90 (vals ([⟨8, (some ⟨b1, 0, none⟩), 2, 2, [0, 35]⟩])))), .slice Ai1 li1.length ci1] 24 := Own.cast hw1.own (by kernel_rfl)
 have hzhw1 := hw1.same
 refine VL_pure 8 [1, 2, 3, 4] [(1, .slice A1 ((msgT 5 false 90 (vals ([⟨8, (some ⟨b1, 0, none⟩), 2, 2, [0, 35]⟩]))).length) c1), (2, .int .i64 (msgE 5 false 90 (vals ([⟨8, (some ⟨b1, 0, none⟩), 2, 2, [0, 35]⟩])))), (3, .pointer (some ⟨b3, 0, none⟩)), (4, .int .i64 (muE (msgT 5 false 90 (vals ([⟨8, (some ⟨b1, 0, none⟩), 2, 2, [0, 35]⟩])))))] (by kernel_rfl) rfl ?_
 refine VL_end (by kernel_rfl) ?_
 refine VQ_next ?_
 refine VC_seq ?_
 refine VC_region ?_
 refine VL_pure 3 [1, 3, 4, 20] [(1, .slice A1 ((msgT 5 false 90 (vals ([⟨8, (some ⟨b1, 0, none⟩), 2, 2, [0, 35]⟩]))).length) c1), (3, .pointer (some ⟨b3, 0, none⟩)), (4, .int .i64 (muE (msgT 5 false 90 (vals ([⟨8, (some ⟨b1, 0, none⟩), 2, 2, [0, 35]⟩]))))), (20, .bool ((msgE 5 false 90 (vals ([⟨8, (some ⟨b1, 0, none⟩), 2, 2, [0, 35]⟩]))) == 0))] (by kernel_rfl) rfl ?_
 refine VL_known ((msgE 5 false 90 (vals ([⟨8, (some ⟨b1, 0, none⟩), 2, 2, [0, 35]⟩]))) == 0) (fun bV => [(1, .slice A1 ((msgT 5 false 90 (vals ([⟨8, (some ⟨b1, 0, none⟩), 2, 2, [0, 35]⟩]))).length) c1), (3, .pointer (some ⟨b3, 0, none⟩)), (4, .int .i64 (muE (msgT 5 false 90 (vals ([⟨8, (some ⟨b1, 0, none⟩), 2, 2, [0, 35]⟩]))))), (20, .bool bV)]) true rfl (by first | rfl | (simp only [awkM.2, beq_self_eq_true]; done) | (rw [awkM.1]; rfl) | (rw [awkU.1]; rfl) | (rw [awkM.2]; rfl) | (rw [awkU.2.1]; rfl) | (rw [hv1, awkU.2.2, awkC]; rfl)) ?_
 refine VL_pure 7 [1, 3, 24] [(1, .slice A1 ((msgT 5 false 90 (vals ([⟨8, (some ⟨b1, 0, none⟩), 2, 2, [0, 35]⟩]))).length) c1), (3, .pointer (some ⟨b3, 0, none⟩)), (24, .bool ((muE (msgT 5 false 90 (vals ([⟨8, (some ⟨b1, 0, none⟩), 2, 2, [0, 35]⟩])))) == 0))] (by kernel_rfl) rfl ?_
 refine VL_known ((muE (msgT 5 false 90 (vals ([⟨8, (some ⟨b1, 0, none⟩), 2, 2, [0, 35]⟩])))) == 0) (fun bV => [(1, .slice A1 ((msgT 5 false 90 (vals ([⟨8, (some ⟨b1, 0, none⟩), 2, 2, [0, 35]⟩]))).length) c1), (3, .pointer (some ⟨b3, 0, none⟩)), (24, .bool bV)]) true rfl (by first | rfl | (simp only [awkM.2, beq_self_eq_true]; done) | (rw [awkM.1]; rfl) | (rw [awkU.1]; rfl) | (rw [awkM.2]; rfl) | (rw [awkU.2.1]; rfl) | (rw [hv1, awkU.2.2, awkC]; rfl)) ?_
 refine VL_pure 8 [3, 24, 25] [(3, .pointer (some ⟨b3, 0, none⟩)), (24, .bool true), (25, .slice A1 ((msgT 5 false 90 (vals ([⟨8, (some ⟨b1, 0, none⟩), 2, 2, [0, 35]⟩]))).length) c1)] (by kernel_rfl) rfl ?_
 have hzs6 := hS.size
 have hzl8 := ho1.lt
 have hzl9 := ho2.lt
 have hzk3 := hbase1
 have hzk4 := hleli1
 have hzl10 := ho4.lt
 refine VL_bs (d := 26) (e := 5) (c := #[.int .u8 9, .int .u8 3, .int .u8 0, .int .u8 0, .int .u8 5, .int .u8 90, .int .u8 128, .int .u8 0, .int .u8 6, .int .u8 8, .int .u8 128, .int .u8 0, .int .u8 2, .int .u8 0, .int .u8 35]) (len := 15) (by kernel_rfl) (by kernel_rfl) ?_
 intro b4 w7 hn4
 replace hS := Step.trans hS (hn4.step No)
 replace ho1 := ho1.no (hn4.step No)
 replace ho2 := ho2.no (hn4.step No)
 replace hbase1 := Nat.le_trans hbase1 (hn4.step No).size
 replace hr1 := hr1.no (hn4.step No)
 replace hV1 := hV1.no (hn4.step No)
 replace hleli1 := Nat.le_trans hleli1 (hn4.step No).size
 replace ho4 := ho4.no (hn4.step No)
 have ho5 := hn4.own
 have hzhn4 := hn4.size
 have hqhn4 := hn4.eqb
 have hzs7 := hS.size
 have hzl11 := ho1.lt
 have hzl12 := ho2.lt
 have hzl13 := ho4.lt
 have hzl14 := ho5.lt
 refine VL_call (d := 27) (f := 15) (args := #[.slice A1 ((msgT 5 false 90 (vals ([⟨8, (some ⟨b1, 0, none⟩), 2, 2, [0, 35]⟩]))).length) c1, .slice (some ⟨b4, 0, none⟩) 15 15]) (by kernel_rfl) (by kernel_rfl) (by kernel_rfl) Try.call15 (same_any A1 ((msgT 5 false 90 (vals ([⟨8, (some ⟨b1, 0, none⟩), 2, 2, [0, 35]⟩]))).length) c1 _ (msgT 5 false 90 (vals ([⟨8, (some ⟨b1, 0, none⟩), 2, 2, [0, 35]⟩]))) (some ⟨b4, 0, none⟩) 15 15 _ ([9, 3, 0, 0, 5, 90, 128, 0, 6, 8, 128, 0, 2, 0, 35]) _ (Rw.lenI hr1) (Rw.slI hr1) rfl (Own.sl ho5 ho5.lt) (by omega) (by omega) (by first | exact Nat.le_refl _ | omega) (by first | exact Nat.le_refl _ | omega)) ?_
 rintro _ w8 ⟨rfl, hc3⟩
 replace hS := Step.trans hS hc3
 replace ho1 := ho1.no hc3
 replace ho2 := ho2.no hc3
 replace hbase1 := Nat.le_trans hbase1 (hc3).size
 replace hr1 := hr1.no hc3
 replace hV1 := hV1.no hc3
 replace hleli1 := Nat.le_trans hleli1 (hc3).size
 replace ho4 := ho4.no hc3
 replace ho5 := ho5.no hc3
 refine VL_pure 12 [3, 29] [(3, .pointer (some ⟨b3, 0, none⟩)), (29, .bool ((msgT 5 false 90 (vals ([⟨8, (some ⟨b1, 0, none⟩), 2, 2, [0, 35]⟩]))) == ([9, 3, 0, 0, 5, 90, 128, 0, 6, 8, 128, 0, 2, 0, 35])))] (by kernel_rfl) rfl ?_
 refine VL_known ((msgT 5 false 90 (vals ([⟨8, (some ⟨b1, 0, none⟩), 2, 2, [0, 35]⟩]))) == ([9, 3, 0, 0, 5, 90, 128, 0, 6, 8, 128, 0, 2, 0, 35])) (fun bV => [(3, .pointer (some ⟨b3, 0, none⟩)), (29, .bool bV)]) true rfl (by first | rfl | (simp only [awkM.2, beq_self_eq_true]; done) | (rw [awkM.1]; rfl) | (rw [awkU.1]; rfl) | (rw [awkM.2]; rfl) | (rw [awkU.2.1]; rfl) | (rw [hv1, awkU.2.2, awkC]; rfl)) ?_
 refine VL_pure 13 [3, 29, 30] [(3, .pointer (some ⟨b3, 0, none⟩)), (29, .bool true), (30, .pointer (some ⟨b3, 0, none⟩))] (by kernel_rfl) rfl ?_
 refine VL_load (d := 31) (t := 3) (a := ⟨b3, 0, none⟩) (v := .int .i64 (muR (msgT 5 false 90 (vals ([⟨8, (some ⟨b1, 0, none⟩), 2, 2, [0, 35]⟩]))))) (by kernel_rfl) (by kernel_rfl) (Loads.own1 ho4 (by kernel_rfl) (by rfl)) ?_
 refine VL_pure 17 [3, 34] [(3, .pointer (some ⟨b3, 0, none⟩)), (34, .bool ((muR (msgT 5 false 90 (vals ([⟨8, (some ⟨b1, 0, none⟩), 2, 2, [0, 35]⟩])))) == 5))] (by kernel_rfl) rfl ?_
 refine VL_known ((muR (msgT 5 false 90 (vals ([⟨8, (some ⟨b1, 0, none⟩), 2, 2, [0, 35]⟩])))) == 5) (fun bV => [(3, .pointer (some ⟨b3, 0, none⟩)), (34, .bool bV)]) true rfl (by first | rfl | (simp only [awkM.2, beq_self_eq_true]; done) | (rw [awkM.1]; rfl) | (rw [awkU.1]; rfl) | (rw [awkM.2]; rfl) | (rw [awkU.2.1]; rfl) | (rw [hv1, awkU.2.2, awkC]; rfl)) ?_
 refine VL_load (d := 35) (t := 24) (a := ⟨b3, 0, none⟩) (v := .agg #[.int .i64 (muR (msgT 5 false 90 (vals ([⟨8, (some ⟨b1, 0, none⟩), 2, 2, [0, 35]⟩])))), .bool (muB (msgT 5 false 90 (vals ([⟨8, (some ⟨b1, 0, none⟩), 2, 2, [0, 35]⟩])))), .int .i64 (muK (msgT 5 false 90 (vals ([⟨8, (some ⟨b1, 0, none⟩), 2, 2, [0, 35]⟩])))), .slice Ai1 li1.length ci1]) (by kernel_rfl) (by kernel_rfl) (Loads.ownL ho4 (n := 4) (by kernel_rfl) (by kernel_rfl) (by kernel_rfl)) ?_
 have hzs8 := hS.size
 have hzl15 := ho1.lt
 have hzl16 := ho2.lt
 have hzl17 := ho4.lt
 have hzl18 := ho5.lt
 refine VL_call (d := 36) (f := 20) (by kernel_rfl) (by kernel_rfl) (by kernel_rfl) Try.call20 (mcause_any (muR (msgT 5 false 90 (vals ([⟨8, (some ⟨b1, 0, none⟩), 2, 2, [0, 35]⟩])))) (muB (msgT 5 false 90 (vals ([⟨8, (some ⟨b1, 0, none⟩), 2, 2, [0, 35]⟩])))) (muK (msgT 5 false 90 (vals ([⟨8, (some ⟨b1, 0, none⟩), 2, 2, [0, 35]⟩])))) Ai1 li1.length ci1 w3.heap.size w4.heap.size li1 _ rfl hV1 (by omega) (by first | exact Nat.le_refl _ | omega) hibli1 (fun x hx => by have hq9 := hsmli1 x hx; omega)) ?_
 rintro _ w9 ⟨rfl, hc4⟩
 replace hS := Step.trans hS hc4
 replace ho1 := ho1.no hc4
 replace ho2 := ho2.no hc4
 replace hbase1 := Nat.le_trans hbase1 (hc4).size
 replace hr1 := hr1.no hc4
 replace hV1 := hV1.no hc4
 replace hleli1 := Nat.le_trans hleli1 (hc4).size
 replace ho4 := ho4.no hc4
 replace ho5 := ho5.no hc4
 refine VL_pure 22 [0] [(0, .bool ((mcause (vals li1)) == 35))] (by kernel_rfl) rfl ?_
 refine VL_end (by kernel_rfl) ?_
 refine VQ_next ?_
 refine VC_ret ?_
 refine VQ_ret1 (.bool ((mcause (vals li1)) == 35)) (.inr rfl) rfl rfl ?_
 exact ⟨by first | rfl | (congr 1; rw [hv1, awkU.2.2, awkC]; rfl), hS⟩

end Go.Proofs.Ytejpcmjokamdcaa
end

section
/- Layer 16 in plain Lean: what is cut, what has more behind it, what has no elements. -/
set_option linter.unusedVariables false
set_option linter.unusedSimpArgs false
namespace Go.Proofs.Ytejpcmjokamdcaa
open Go.Vc
theorem msgT_bytes {r k : Int} {back : Bool} {l : List IeV} (hl : ∀ x ∈ l, IeB x) : Bytes (msgT r back k (vals l)) := by
  unfold msgT
  split
  · exact msg_bytes (packT_bytes hl)
  · exact Bytes.nil
/-- What a packed message's bytes tell of their head, however many are taken, and whatever is behind them. -/
theorem msg_head {r k : Int} {back : Bool} {L : List IeD} (h : msgE r back k L = 0) : ∃ H P : List Int, msgT r back k L = H ++ P ∧ H.length = 9 ∧ (msgT r back k L).length = 9 + P.length ∧ 9 + P.length ≤ 1000 ∧
    ∀ Q, muForm (H ++ Q) ∧ knownB ((H ++ Q).getD 5 0) = true ∧ muS (H ++ Q) = P.length := by
  obtain ⟨h1, h2, h3⟩ := msg_of h
  obtain ⟨g1, g2, g3⟩ := rightM_T h1
  obtain ⟨m, rfl⟩ : ∃ m : Nat, r = m := ⟨r.toNat, by omega⟩
  rw [Int.toNat_natCast] at h3
  obtain ⟨P, hP⟩ : ∃ P, P = packT L := ⟨_, rfl⟩
  rw [← hP] at h2
  refine ⟨hdL (msgN m back) k P.length, P, by rw [h3, hP]; rfl, rfl, by rw [h3, msgL_len, hP], h2, fun Q => ⟨⟨rfl, rfl, rfl, ?_⟩, ?_, ?_⟩⟩
  · have hN : muN (hdL (msgN m back) k P.length ++ Q) = msgN m back := by
      unfold muN
      simp only [hdL, List.cons_append, List.getD_cons_succ, List.getD_cons_zero]
      have n2 : msgN m back = if back = true then m + 8388608 else m := rfl
      have : msgN m back < 16777216 := by rw [n2]; split <;> omega
      omega
    have n2 : msgN m back = if back = true then m + 8388608 else m := rfl
    rw [hN, n2]; split <;> omega
  · simp only [hdL, List.cons_append, List.getD_cons_succ, List.getD_cons_zero]
    rw [known_small g2]; exact g2
  · unfold muS
    simp only [hdL, List.cons_append, List.getD_cons_succ, List.getD_cons_zero]
    omega
theorem msg_len {r k : Int} {back : Bool} {L : List IeD} (h : msgE r back k L = 0) : 9 ≤ (msgT r back k L).length ∧ (msgT r back k L).length ≤ 1000 := by
  obtain ⟨H, P, h1, h2, h3, h4, _⟩ := msg_head h
  omega
/-- A beginning of it is too short. -/
theorem msg_cut {r k : Int} {back : Bool} {L : List IeD} (h : msgE r back k L = 0) {N : Nat} (hN : N < (msgT r back k L).length) : muE ((msgT r back k L).take N) = 2 := by
  obtain ⟨H, P, h1, h2, h3, h4, h5⟩ := msg_head h
  have hl : ((msgT r back k L).take N).length = N := by rw [List.length_take]; omega
  by_cases h9 : N < 9
  · exact mu_2 (by omega) (by omega)
  · have e : (msgT r back k L).take N = H ++ P.take (N - 9) := by
      rw [h1, List.take_append, List.take_of_length_le (by omega), h2]
    obtain ⟨q1, q2, q3⟩ := h5 (P.take (N - 9))
    rw [← e] at q1 q2 q3
    exact mu_2b (by omega) (by omega) q1 q2 (by omega)
/-- With more behind it, it is none either. -/
theorem msg_more {r k : Int} {back : Bool} {L : List IeD} (h : msgE r back k L = 0) (x : Int) : muE (msgT r back k L ++ [x]) = 3 ∨ muE (msgT r back k L ++ [x]) = 6 := by
  obtain ⟨H, P, h1, h2, h3, h4, h5⟩ := msg_head h
  have hl : (msgT r back k L ++ [x]).length = 10 + P.length := by rw [List.length_append, h3]; simp; omega
  by_cases h9 : 1000 < (msgT r back k L ++ [x]).length
  · exact .inr (mu_6 h9)
  · have e : msgT r back k L ++ [x] = H ++ (P ++ [x]) := by rw [h1, List.append_assoc]
    obtain ⟨q1, q2, q3⟩ := h5 (P ++ [x])
    rw [← e] at q1 q2 q3
    exact .inl (mu_3 h9 (by omega) q1 q2 (by omega))
theorem mu_none {bs : List Int} {l : List IeV} (h : muE bs ≠ 0) (hv : vals l = muL bs) : l.length = 0 := by
  rw [← vals_len, hv, (mu_n h).2.2.2]; rfl
/-! ### Messages without elements -/
def fineM (r k : Int) : Bool := decide (1 ≤ r ∧ r ≤ 8388607) && knownB k
theorem packE_nil : packE (vals []) = 0 := rfl
theorem right_nil (r k : Int) : rightM r k (vals []) = fineM r k := by simp [rightM, fineM, packE_nil]
theorem msgE_nil (r k : Int) (bk : Bool) : (msgE r bk k (vals []) == 0) = fineM r k := by
  unfold msgE
  rw [right_nil]
  cases h : fineM r k with
  | true => rw [if_pos rfl]; rfl
  | false => rfl
theorem fine_is {r k : Int} : ((((k == 2 || k == 5) || k == 7) || k == 77) || k == 90) = knownB k := by
  rw [knownB, Bool.eq_iff_iff]; simp only [Bool.or_eq_true, beq_iff_eq, decide_eq_true_eq]; omega
theorem nil_msg {r k : Int} (bk : Bool) (h : fineM r k = true) : msgE r bk k (vals []) = 0 := by have := msgE_nil r k bk; rw [h, beq_iff_eq] at this; exact this
theorem nil_len {r k : Int} (bk : Bool) (h : fineM r k = true) : (msgT r bk k (vals [])).length = 9 := by
  obtain ⟨h1, h2, h3⟩ := msg_of (nil_msg bk h)
  rw [h3, msgL_len]; rfl
theorem nil_b2 {r k : Int} (bk : Bool) (h : fineM r k = true) : (decide ((msgT r bk k (vals [])).getD 2 0 > 127) == bk) = true := by
  obtain ⟨h1, h2, h3⟩ := msg_of (nil_msg bk h)
  obtain ⟨g1, _⟩ := rightM_T h1
  obtain ⟨m, rfl⟩ : ∃ m : Nat, r = m := ⟨r.toNat, by omega⟩
  rw [h3, Int.toNat_natCast]
  have e : (msgL m bk k (vals [])).getD 2 0 = ((msgN m bk / 65536 % 256 : Nat) : Int) := rfl
  rw [e, beq_iff_eq]
  have n2 : msgN m bk = if bk = true then m + 8388608 else m := rfl
  rw [n2]
  cases bk
  · simp; omega
  · simp; omega
end Go.Proofs.Ytejpcmjokamdcaa
end

section
/- Layer 1, the document's: bits, a division of polynomials. -/
set_option linter.unusedVariables false
set_option linter.unusedSimpArgs false
namespace Go.Proofs.Ytejpcmjokamdcaa
open Go.Vc
def rbit (x d : Int) : Int := (IntKind.wrap .i64 ((IntKind.wrap .i64 x).tdiv d)).tmod 2
def rbits8 (x : Int) : List Int := [rbit x 128, rbit x 64, rbit x 32, rbit x 16, rbit x 8, rbit x 4, rbit x 2, rbit x 1]
def rbitsF (bs : List Int) (j : Nat) : List Int := (bs.take j).flatMap rbits8
def rbitsL (bs : List Int) : List Int := bs.flatMap rbits8
theorem rbitsF_succ {bs : List Int} {j : Nat} (h : j < bs.length) : rbitsF bs (j + 1) = rbitsF bs j ++ rbits8 (bs.getD j 0) := by
  unfold rbitsF
  rw [List.take_add_one, List.getElem?_eq_getElem h, List.flatMap_append]
  simp only [List.getD, List.getElem?_eq_getElem h, Option.toList_some, List.flatMap_cons, List.flatMap_nil, List.append_nil, Option.getD_some]
theorem rbitsF_all (bs : List Int) : rbitsF bs bs.length = rbitsL bs := by simp [rbitsF, rbitsL]
theorem rbits8_len (x : Int) : (rbits8 x).length = 8 := rfl
theorem rbitsL_len (bs : List Int) : (rbitsL bs).length = 8 * bs.length := by
  induction bs with
  | nil => rfl
  | cons x r ih => rw [rbitsL, List.flatMap_cons, List.length_append, rbits8_len, ← rbitsL, ih, List.length_cons]; omega
/-- One step of the division: the divisor is laid under, from place i on, k of its coefficients. -/
def addF (g : List Int) (i : Nat) (a : List Int) : Nat → List Int
  | 0 => a
  | k + 1 => (addF g i a k).set (i + k) ((IntKind.wrap .i64 ((addF g i a k).getD (i + k) 0 + g.getD k 0)).tmod 2)
def divF (g : List Int) (xs : List Int) : Nat → List Int
  | 0 => xs
  | i + 1 => if (divF g xs i).getD i 0 = 0 then divF g xs i else addF g i (divF g xs i) g.length
theorem addF_len (g : List Int) (i : Nat) (a : List Int) : ∀ k, (addF g i a k).length = a.length
  | 0 => rfl
  | k + 1 => by rw [addF, List.length_set, addF_len g i a k]
theorem divF_len (g : List Int) (xs : List Int) : ∀ i, (divF g xs i).length = xs.length
  | 0 => rfl
  | i + 1 => by rw [divF]; split <;> simp only [addF_len, divF_len g xs i]
def numF (xs : List Int) (from_ : Nat) : Nat → Int
  | 0 => 0
  | k + 1 => IntKind.wrap .u64 (IntKind.wrap .u64 (2 * numF xs from_ k) + IntKind.wrap .u64 (xs.getD (from_ + k) 0))
def flipF (xs : List Int) : Nat → List Int
  | 0 => xs
  | i + 1 => (flipF xs i).set i (IntKind.wrap .i64 (1 - (flipF xs i).getD i 0))
theorem flipF_len (xs : List Int) : ∀ i, (flipF xs i).length = xs.length
  | 0 => rfl
  | i + 1 => by rw [flipF, List.length_set, flipF_len xs i]
def gF (by_ : Int) (d : Nat) : Nat → List Int
  | 0 => [1]
  | k + 1 => gF by_ d k ++ [IntKind.wrap .i64 ((by_.fdiv (2 ^ (d - 1 - k))).tmod 2)]
theorem gF_len (by_ : Int) (d : Nat) : ∀ k, (gF by_ d k).length = k + 1
  | 0 => rfl
  | k + 1 => by rw [gF, List.length_append, gF_len by_ d k]; rfl
def restF (by_ : Int) (d : Nat) (bs : List Int) : Int := numF (divF (gF by_ d d) (bs ++ List.replicate d 0) bs.length) bs.length d
def sealR (bs : List Int) : List Int :=
  (bs.set 46 (IntKind.wrap .u8 (IntKind.wrap .u8 (IntKind.wrap .u8 ((bs.getD 46 0).tdiv 4) * 4) + IntKind.wrap .u8 (IntKind.wrap .u64 ((restF 563 10 ((rbitsL bs).take 374)).tdiv 256))))).set 47 (IntKind.wrap .u8 ((restF 563 10 ((rbitsL bs).take 374)).tmod 256))
theorem sealR_len (bs : List Int) : (sealR bs).length = bs.length := by simp [sealR]
def restL (g : List Int) (xs : List Int) (d : Nat) : Int := numF (divF g (xs ++ List.replicate d 0) xs.length) xs.length d
end Go.Proofs.Ytejpcmjokamdcaa
end

section
/- Layer 1: what the bits of bytes are, and the register behind them. -/
set_option linter.unusedVariables false
set_option linter.unusedSimpArgs false
namespace Go.Proofs.Ytejpcmjokamdcaa
open Go.Vc

def bits8 (x : Int) : List Bool := [bAnd .u8 (x.fdiv (2 ^ 7)) 1 == 1, bAnd .u8 (x.fdiv (2 ^ 6)) 1 == 1, bAnd .u8 (x.fdiv (2 ^ 5)) 1 == 1, bAnd .u8 (x.fdiv (2 ^ 4)) 1 == 1, bAnd .u8 (x.fdiv (2 ^ 3)) 1 == 1, bAnd .u8 (x.fdiv (2 ^ 2)) 1 == 1, bAnd .u8 (x.fdiv (2 ^ 1)) 1 == 1, bAnd .u8 (x.fdiv (2 ^ 0)) 1 == 1]
def bitsL (bs : List Int) : List Bool := bs.flatMap bits8
def bitsV (bs : List Int) : List (Array Value) := (bitsL bs).map fun x => #[.bool x]
theorem flat8_get {α : Type} (f : Int → List α) (hf : ∀ x, (f x).length = 8) (bs : List Int) : ∀ (j i : Nat), j < bs.length → i < 8 → (bs.flatMap f)[8 * j + i]? = (f (bs.getD j 0))[i]? := by
  induction bs with
  | nil => intro j i h; simp at h
  | cons x r ih =>
    intro j i hj hi
    rw [List.flatMap_cons]
    cases j with
    | zero =>
      rw [Nat.mul_zero, Nat.zero_add, List.getElem?_append_left (by rw [hf]; exact hi)]
      rfl
    | succ j =>
      rw [List.getElem?_append_right (by rw [hf]; omega), hf, show 8 * (j + 1) + i - 8 = 8 * j + i from by omega, ih j i (by simpa using hj) hi]
      simp
theorem flat8_len {α : Type} (f : Int → List α) (hf : ∀ x, (f x).length = 8) (bs : List Int) : (bs.flatMap f).length = 8 * bs.length := by
  induction bs with
  | nil => rfl
  | cons x r ih => rw [List.flatMap_cons, List.length_append, hf, ih, List.length_cons]; omega
theorem bits8_len (x : Int) : (bits8 x).length = 8 := rfl
theorem bitsL_len (bs : List Int) : (bitsL bs).length = 8 * bs.length := flat8_len bits8 bits8_len bs
theorem bitsV_len (bs : List Int) : (bitsV bs).length = 8 * bs.length := by simp [bitsV, bitsL_len]
theorem bitsV_get {bs : List Int} {j i : Nat} {b : Bool} (hj : j < bs.length) (hi : i < 8) (h : (bits8 (bs.getD j 0))[i]? = some b) : (bitsV bs)[8 * j + i]? = some #[.bool b] := by
  rw [bitsV, List.getElem?_map, bitsL, flat8_get bits8 bits8_len bs j i hj hi, h]; rfl

def maskOf (top : Int) : Int := IntKind.wrap .u32 (IntKind.wrap .u32 (top * 2 ^ 1) - 1)
def stepB (top by_ r : Int) (bit : Bool) : Int :=
  if ((bAnd .u32 r top != 0) == bit) = true then bAnd .u32 (IntKind.wrap .u32 (r * 2 ^ 1)) (maskOf top) else bXor .u32 (bAnd .u32 (IntKind.wrap .u32 (r * 2 ^ 1)) (maskOf top)) by_
def restB (bs : List Int) (r top by_ : Int) : Int := (bitsL bs).foldl (stepB top by_) r
theorem foldl_take_succ {α β : Type} (f : β → α → β) (a : β) (xs : List α) (k : Nat) (x : α) (h : xs[k]? = some x) : (xs.take (k + 1)).foldl f a = f ((xs.take k).foldl f a) x := by
  rw [List.take_add_one, h]; simp
end Go.Proofs.Ytejpcmjokamdcaa
end

section
/- Layer 1, the document's: the frame's check. -/
set_option linter.unusedVariables false
set_option linter.unusedSimpArgs false
namespace Go.Proofs.Ytejpcmjokamdcaa
open Go.Vc
def restT (by_ : Int) (d : Nat) (bs : List Int) : Int := numF (divF (gF by_ d d) (flipF (bs ++ List.replicate d 0) d) bs.length) bs.length d
def longB (bs : List Int) : Int := bXor .u32 4294967295 (restB bs 4294967295 2147483648 79764919)
def rlongB (bs : List Int) : Int := bXor .u32 4294967295 (IntKind.wrap .u32 (restT 79764919 32 (rbitsL bs)))
end Go.Proofs.Ytejpcmjokamdcaa
end

section
/- Layer 10 in plain Lean: texts as frames. -/
set_option linter.unusedVariables false
set_option linter.unusedSimpArgs false
namespace Go.Proofs.Ytejpcmjokamdcaa
open Go.Vc
def manyN (n : Nat) : Nat := if n = 0 then 0 else (n + 55) / 48
theorem many_le (n : Nat) : (n = 0 → manyN n = 0) ∧ (0 < n → n + 8 ≤ 48 * manyN n ∧ 48 * manyN n ≤ n + 55) := by
  unfold manyN
  by_cases h : n = 0
  · rw [if_pos h]; omega
  · rw [if_neg h]; omega
def sumL (bs : List Int) : List Int := [IntKind.wrap .u8 ((longB bs).fdiv (2 ^ 24)), IntKind.wrap .u8 ((longB bs).fdiv (2 ^ 16)), IntKind.wrap .u8 ((longB bs).fdiv (2 ^ 8)), IntKind.wrap .u8 (longB bs)]
def lenB (n : Nat) : List Int := [IntKind.wrap .u8 (((n : Nat) : Int).fdiv (2 ^ 8)), IntKind.wrap .u8 ((n : Nat) : Int)]
def padF (bs : List Int) : List Int := bs ++ List.replicate (48 * manyN bs.length - 8 - bs.length) 0
def headF (bs : List Int) (m : Int) : List Int := padF bs ++ (m :: 0 :: lenB bs.length)
def frameF (bs : List Int) (m : Int) : List Int := headF bs m ++ sumL (headF bs m)
theorem putL_rep (N : Nat) (bs : List Int) : putL (List.replicate N 0) 0 bs = bs ++ List.replicate (N - bs.length) 0 := by
  simp [putL]
theorem padF_len {bs : List Int} (h : 0 < bs.length) : (padF bs).length = 48 * manyN bs.length - 8 := by
  have := (many_le bs.length).2 h
  simp [padF]; omega
theorem headF_len {bs : List Int} {m : Int} (h : 0 < bs.length) : (headF bs m).length = 48 * manyN bs.length - 4 := by
  have := (many_le bs.length).2 h
  simp [headF, padF_len h, lenB]; omega
theorem frameF_len {bs : List Int} {m : Int} (h : 0 < bs.length) : (frameF bs m).length = 48 * manyN bs.length := by
  have := (many_le bs.length).2 h
  simp [frameF, headF_len h, sumL]; omega
end Go.Proofs.Ytejpcmjokamdcaa
end

section
/- The checks: a register behind bits is the rest of a division of polynomials. -/
set_option linter.unusedVariables false
set_option linter.unusedSimpArgs false
namespace Go.Proofs.Ytejpcmjokamdcaa
open Go.Vc

/-! ### 1. Operations on numbers -/
theorem wrap_u32 (x : Nat) : IntKind.wrap .u32 (x : Int) = ((x % 2 ^ 32 : Nat) : Int) := by
  unfold IntKind.wrap
  simp [IntKind.signed, IntKind.bits]
theorem bAnd_u32 (a b : Nat) (ha : a < 2 ^ 32) (hb : b < 2 ^ 32) : bAnd .u32 (a : Int) (b : Int) = ((a &&& b : Nat) : Int) := by
  unfold bAnd
  rw [BitVec.ofInt_natCast, BitVec.ofInt_natCast, BitVec.toNat_and, BitVec.toNat_ofNat, BitVec.toNat_ofNat]
  show IntKind.wrap .u32 (((a % 2 ^ 32 &&& b % 2 ^ 32 : Nat)) : Int) = _
  rw [Nat.mod_eq_of_lt ha, Nat.mod_eq_of_lt hb, wrap_u32, Nat.mod_eq_of_lt (Nat.lt_of_le_of_lt Nat.and_le_left ha)]
theorem bXor_u32' (a b : Nat) (ha : a < 2 ^ 32) (hb : b < 2 ^ 32) : bXor .u32 (a : Int) (b : Int) = ((a ^^^ b : Nat) : Int) := by
  unfold bXor
  rw [BitVec.ofInt_natCast, BitVec.ofInt_natCast, BitVec.toNat_xor, BitVec.toNat_ofNat, BitVec.toNat_ofNat]
  show IntKind.wrap .u32 (((a % 2 ^ 32 ^^^ b % 2 ^ 32 : Nat)) : Int) = _
  rw [Nat.mod_eq_of_lt ha, Nat.mod_eq_of_lt hb, wrap_u32, Nat.mod_eq_of_lt (Nat.xor_lt_two_pow ha hb)]

/-! ### 2. The register -/
def stepN (d g r : Nat) (bit : Bool) : Nat := if r.testBit (d - 1) == bit then r * 2 % 2 ^ d else (r * 2 % 2 ^ d) ^^^ g
theorem stepN_lt {d g r : Nat} {bit : Bool} (hg : g < 2 ^ d) : stepN d g r bit < 2 ^ d := by
  unfold stepN
  split
  · exact Nat.mod_lt _ (Nat.two_pow_pos d)
  · exact Nat.xor_lt_two_pow (Nat.mod_lt _ (Nat.two_pow_pos d)) hg
theorem stepB_N {d g r : Nat} {bit : Bool} (hd : 1 ≤ d) (hd2 : d ≤ 32) (hg : g < 2 ^ d) (hr : r < 2 ^ d) : stepB ((2 ^ (d - 1) : Nat) : Int) (g : Int) (r : Int) bit = ((stepN d g r bit : Nat) : Int) := by
  have h32 : 2 ^ d ≤ 2 ^ 32 := Nat.pow_le_pow_right (by omega) hd2
  have htop : 2 ^ (d - 1) < 2 ^ 32 := Nat.pow_lt_pow_right (by omega) (by omega)
  have hm : maskOf ((2 ^ (d - 1) : Nat) : Int) = ((2 ^ d - 1 : Nat) : Int) := by
    unfold maskOf
    have e1 : (((2 ^ (d - 1) : Nat) : Int) * 2 ^ 1) = ((2 ^ d : Nat) : Int) := by
      rw [show (2 : Int) ^ 1 = ((2 : Nat) : Int) from rfl, ← Int.natCast_mul]
      congr 1
      rw [← Nat.pow_succ]
      congr 1; omega
    rw [e1, wrap_u32]
    by_cases h : d = 32
    · subst h; rfl
    · have hlt : 2 ^ d < 2 ^ 32 := Nat.pow_lt_pow_right (by omega) (by omega)
      rw [Nat.mod_eq_of_lt hlt]
      have h1 : 1 ≤ 2 ^ d := Nat.two_pow_pos d
      rw [show ((2 ^ d : Nat) : Int) - 1 = ((2 ^ d - 1 : Nat) : Int) by omega, wrap_u32, Nat.mod_eq_of_lt (by omega)]
  have hhigh : (bAnd .u32 (r : Int) ((2 ^ (d - 1) : Nat) : Int) != 0) = r.testBit (d - 1) := by
    rw [bAnd_u32 _ _ (by omega) htop]
    have e : r &&& 2 ^ (d - 1) = if r.testBit (d - 1) = true then 2 ^ (d - 1) else 0 := by
      apply Nat.eq_of_testBit_eq
      intro i
      rw [Nat.testBit_and, Nat.testBit_two_pow]
      by_cases hi : d - 1 = i
      · subst hi
        cases h : r.testBit (d - 1) <;> simp [Nat.testBit_two_pow]
      · cases h : r.testBit (d - 1) <;> simp [Nat.testBit_two_pow, hi]
    rw [e]
    have := Nat.two_pow_pos (d - 1)
    cases h : r.testBit (d - 1)
    · rfl
    · rw [if_pos rfl, bne_iff_ne]
      omega
  have hs : bAnd .u32 (IntKind.wrap .u32 ((r : Int) * 2 ^ 1)) (maskOf ((2 ^ (d - 1) : Nat) : Int)) = ((r * 2 % 2 ^ d : Nat) : Int) := by
    rw [hm, show ((r : Int) * 2 ^ 1) = ((r * 2 : Nat) : Int) by omega, wrap_u32, bAnd_u32 _ _ (Nat.mod_lt _ (by decide)) (by omega), Nat.and_two_pow_sub_one_eq_mod]
    congr 1
    exact Nat.mod_mod_of_dvd _ (Nat.pow_dvd_pow 2 hd2)
  unfold stepB stepN
  rw [hhigh, hs]
  by_cases hb : (r.testBit (d - 1) == bit) = true
  · rw [if_pos hb, if_pos hb]
  · rw [if_neg hb, if_neg hb, bXor_u32' _ _ (Nat.lt_of_lt_of_le (Nat.mod_lt _ (Nat.two_pow_pos d)) h32) (by omega)]
theorem fold_N {d g : Nat} (hd : 1 ≤ d) (hd2 : d ≤ 32) (hg : g < 2 ^ d) (l : List Bool) : ∀ r : Nat, r < 2 ^ d → l.foldl (stepB ((2 ^ (d - 1) : Nat) : Int) (g : Int)) (r : Int) = ((l.foldl (stepN d g) r : Nat) : Int) ∧ l.foldl (stepN d g) r < 2 ^ d := by
  induction l with
  | nil => intro r hr; exact ⟨rfl, hr⟩
  | cons b l ih =>
    intro r hr
    simp only [List.foldl_cons]
    rw [stepB_N hd hd2 hg hr]
    exact ih _ (stepN_lt hg)

/-! ### 3. The division -/
def b2i (b : Bool) : Int := if b = true then 1 else 0
theorem b2i_add (p q : Bool) : (IntKind.wrap .i64 (b2i p + b2i q)).tmod 2 = b2i (p ^^ q) := by cases p <;> cases q <;> rfl
theorem b2i_0 (p : Bool) : b2i p = 0 ↔ p = false := by cases p <;> simp [b2i]
theorem getD_set (xs : List Int) (j m : Nat) (v : Int) (hj : j < xs.length) : (xs.set j v).getD m 0 = if m = j then v else xs.getD m 0 := by
  simp only [List.getD, List.getElem?_set]
  by_cases h : j = m
  · subst h; simp [hj]
  · rw [if_neg h, if_neg (fun e => h e.symm)]
def regN (d g : Nat) (Y : Nat → Bool) (r0 : Nat) : Nat → Nat
  | 0 => r0
  | i + 1 => stepN d g (regN d g Y r0 i) (Y i)
theorem regN_lt {d g : Nat} {Y : Nat → Bool} {r0 : Nat} (hg : g < 2 ^ d) (hr : r0 < 2 ^ d) : ∀ i, regN d g Y r0 i < 2 ^ d
  | 0 => hr
  | i + 1 => stepN_lt hg
theorem stepN_bit {d g r : Nat} {bit : Bool} (hd : 1 ≤ d) (j : Nat) (hj : j < d) : (stepN d g r bit).testBit (d - 1 - j) = ((decide (j + 1 < d) && r.testBit (d - 1 - (j + 1))) ^^ ((bit ^^ r.testBit (d - 1)) && g.testBit (d - 1 - j))) := by
  have hs : (r * 2 % 2 ^ d).testBit (d - 1 - j) = (decide (j + 1 < d) && r.testBit (d - 1 - (j + 1))) := by
    rw [Nat.testBit_mod_two_pow, decide_eq_true (show d - 1 - j < d by omega), Bool.true_and]
    by_cases h : j + 1 < d
    · rw [decide_eq_true h, Bool.true_and, show d - 1 - j = (d - 1 - (j + 1)) + 1 by omega, Nat.testBit_succ, Nat.mul_div_cancel _ (by omega)]
    · rw [decide_eq_false h, Bool.false_and, show d - 1 - j = 0 by omega]
      simp
  unfold stepN
  cases h : r.testBit (d - 1) <;> cases bit <;> simp [hs, Nat.testBit_xor]
/-- G's list, of the divisor's coefficients. -/
theorem div_inv {d g : Nat} (hd : 1 ≤ d) (hg : g < 2 ^ d) {gl : List Int} (hgl : gl.length = d + 1) (hg0 : gl.getD 0 0 = 1) (hgj : ∀ j, j < d → gl.getD (j + 1) 0 = b2i (g.testBit (d - 1 - j)))
    {Y : Nat → Bool} {n r0 : Nat} {xs : List Int} (hr0 : r0 < 2 ^ d) (hx : xs.length = n + d) (hX : ∀ m, m < n + d → xs.getD m 0 = b2i (Y m ^^ (decide (m < d) && r0.testBit (d - 1 - m)))) :
    ∀ i, i ≤ n → ∀ m, i ≤ m → m < n + d → (divF gl xs i).getD m 0 = b2i (Y m ^^ (decide (m < i + d) && (regN d g Y r0 i).testBit (d - 1 - (m - i)))) := by
  intro i
  induction i with
  | zero => intro _ m _ hm; simpa [divF, regN] using hX m hm
  | succ i ih =>
    intro hi m hm hmn
    have ih := ih (by omega)
    have h0 := ih i (Nat.le_refl _) (by omega)
    rw [decide_eq_true (show i < i + d by omega), Bool.true_and, Nat.sub_self, Nat.sub_zero] at h0
    have hG : ∀ j, j < d + 1 → gl.getD j 0 = b2i (if j = 0 then true else g.testBit (d - 1 - (j - 1))) := by
      intro j hj
      cases j with
      | zero => rw [hg0]; rfl
      | succ j => rw [hgj j (by omega)]; simp
    rw [divF]
    obtain ⟨R, hR⟩ : ∃ R, R = regN d g Y r0 i := ⟨_, rfl⟩
    rw [regN, ← hR]
    rw [← hR] at h0
    -- what stands at m ahead of the step
    have hlow : ∀ m, i ≤ m → m < n + d → (divF gl xs i).getD m 0 = b2i (Y m ^^ (decide (m < i + d) && R.testBit (d - 1 - (m - i)))) := fun m h1 h2 => by rw [hR]; exact ih m h1 h2
    by_cases hz : (divF gl xs i).getD i 0 = 0
    · rw [if_pos hz, hlow m (by omega) hmn]
      rw [h0, b2i_0] at hz
      congr 2
      by_cases hmd : m < i + 1 + d
      · rw [decide_eq_true hmd, Bool.true_and, show m - (i + 1) = m - i - 1 by omega, stepN_bit hd (m - i - 1) (by omega)]
        rw [show m - i - 1 + 1 = m - i by omega, hz, Bool.false_and, Bool.xor_false]
        congr 1
        simp; omega
      · rw [decide_eq_false hmd, decide_eq_false (by omega)]; simp
    · rw [if_neg hz, hgl]
      rw [h0, b2i_0, Bool.not_eq_false] at hz
      have hlen : (divF gl xs i).length = n + d := by rw [divF_len, hx]
      have key : ∀ k, i + k ≤ n + d → k ≤ d + 1 → ∀ m, i ≤ m → m < n + d → (addF gl i (divF gl xs i) k).getD m 0 = b2i (if m < i + k then (Y m ^^ (decide (m < i + d) && R.testBit (d - 1 - (m - i)))) ^^ (if m - i = 0 then true else g.testBit (d - 1 - (m - i - 1))) else (Y m ^^ (decide (m < i + d) && R.testBit (d - 1 - (m - i))))) := by
        intro k
        induction k with
        | zero => intro _ _ m h1 h2; rw [addF, hlow m h1 h2, if_neg (by omega)]
        | succ k ihk =>
          intro hk hk1 m h1 h2
          have ihk := ihk (by omega) (by omega)
          rw [addF, getD_set _ _ _ _ (by rw [addF_len, hlen]; omega)]
          by_cases h : m = i + k
          · subst h
            rw [if_pos rfl, ihk (i + k) (by omega) (by omega), if_neg (show ¬ i + k < i + k by omega), hG k (by omega), b2i_add, if_pos (show i + k < i + (k + 1) by omega), Nat.add_sub_cancel_left]
          · rw [if_neg h, ihk m h1 h2]
            by_cases h3 : m < i + k
            · rw [if_pos h3, if_pos (show m < i + (k + 1) by omega)]
            · rw [if_neg h3, if_neg (show ¬ m < i + (k + 1) by omega)]
      rw [key (d + 1) (by omega) (Nat.le_refl _) m (by omega) hmn]
      by_cases hmd : m < i + 1 + d
      · rw [if_pos (show m < i + (d + 1) by omega), decide_eq_true hmd, Bool.true_and, if_neg (show ¬ m - i = 0 by omega), show m - (i + 1) = m - i - 1 by omega, stepN_bit hd (m - i - 1) (by omega), hz, Bool.true_and]
        rw [show m - i - 1 + 1 = m - i by omega, Bool.xor_assoc]
        congr 3
        congr 1
        simp; omega
      · rw [if_neg (show ¬ m < i + (d + 1) by omega), decide_eq_false hmd, decide_eq_false (show ¬ m < i + d by omega)]; simp

/-! ### 4. The rest, as a number -/
theorem wrap_u64 (x : Nat) : IntKind.wrap .u64 (x : Int) = ((x % 2 ^ 64 : Nat) : Int) := by
  unfold IntKind.wrap
  simp [IntKind.signed, IntKind.bits]
theorem num_reg {xs : List Int} {f d R : Nat} (hd : d ≤ 64) (hR : R < 2 ^ d) (h : ∀ j, j < d → xs.getD (f + j) 0 = b2i (R.testBit (d - 1 - j))) : ∀ k, k ≤ d → numF xs f k = ((R / 2 ^ (d - k) : Nat) : Int) := by
  intro k
  induction k with
  | zero => intro _; rw [numF, Nat.sub_zero, Nat.div_eq_of_lt hR]; rfl
  | succ k ih =>
    intro hk
    rw [numF, ih (by omega), h k (by omega)]
    have e : R / 2 ^ (d - (k + 1)) = 2 * (R / 2 ^ (d - k)) + (R / 2 ^ (d - (k + 1))) % 2 := by
      rw [show d - k = (d - (k + 1)) + 1 by omega, Nat.pow_succ, ← Nat.div_div_eq_div_mul]
      omega
    have hb : b2i (R.testBit (d - 1 - k)) = ((R / 2 ^ (d - (k + 1)) % 2 : Nat) : Int) := by
      rw [show d - 1 - k = d - (k + 1) by omega, Nat.testBit_eq_decide_div_mod_eq]
      rcases Nat.mod_two_eq_zero_or_one (R / 2 ^ (d - (k + 1))) with h | h <;> rw [h] <;> rfl
    have hlt : R / 2 ^ (d - (k + 1)) < 2 ^ 64 := by
      have h1 : R / 2 ^ (d - (k + 1)) ≤ R := Nat.div_le_self _ _
      have h2 : 2 ^ d ≤ 2 ^ 64 := Nat.pow_le_pow_right (by omega) hd
      omega
    rw [hb, show (2 : Int) * ((R / 2 ^ (d - k) : Nat) : Int) = ((2 * (R / 2 ^ (d - k)) : Nat) : Int) by omega, wrap_u64, wrap_u64]
    rw [Nat.mod_eq_of_lt (show 2 * (R / 2 ^ (d - k)) < 2 ^ 64 by omega), Nat.mod_eq_of_lt (show R / 2 ^ (d - (k + 1)) % 2 < 2 ^ 64 by omega)]
    rw [show ((2 * (R / 2 ^ (d - k)) : Nat) : Int) + ((R / 2 ^ (d - (k + 1)) % 2 : Nat) : Int) = ((2 * (R / 2 ^ (d - k)) + R / 2 ^ (d - (k + 1)) % 2 : Nat) : Int) by omega, ← e, wrap_u64, Nat.mod_eq_of_lt hlt]

/-! ### 5. The divisor's coefficients -/
theorem gF_get {g d : Nat} (hg : g < 2 ^ d) (hd : d ≤ 64) : ∀ k, k ≤ d → (gF (g : Int) d k).getD 0 0 = 1 ∧ ∀ j, j < k → (gF (g : Int) d k).getD (j + 1) 0 = b2i (g.testBit (d - 1 - j)) := by
  intro k
  induction k with
  | zero => intro _; exact ⟨rfl, fun j hj => by omega⟩
  | succ k ih =>
    intro hk
    obtain ⟨h1, h2⟩ := ih (by omega)
    have hl := gF_len (g : Int) d k
    have hnew : IntKind.wrap .i64 (((g : Int).fdiv (2 ^ (d - 1 - k))).tmod 2) = b2i (g.testBit (d - 1 - k)) := by
      rw [Int.fdiv_eq_ediv_of_nonneg _ (Int.le_of_lt (Int.pow_pos (by omega))), show ((2 : Int) ^ (d - 1 - k)) = ((2 ^ (d - 1 - k) : Nat) : Int) by rw [Int.natCast_pow]; rfl, ← Int.natCast_ediv, show (2 : Int) = ((2 : Nat) : Int) from rfl, ← Int.ofNat_tmod, Nat.testBit_eq_decide_div_mod_eq]
      rcases Nat.mod_two_eq_zero_or_one (g / 2 ^ (d - 1 - k)) with h | h <;> rw [h] <;> rfl
    rw [gF]
    refine ⟨?_, fun j hj => ?_⟩
    · rw [List.getD, List.getElem?_append_left (by omega)]; exact h1
    · by_cases hjk : j < k
      · rw [List.getD, List.getElem?_append_left (by omega)]; exact h2 j hjk
      · obtain rfl : j = k := by omega
        rw [List.getD, List.getElem?_append_right (by omega), hl, Nat.sub_self]
        exact hnew
/-- The rest of a division is the register's last state. -/
theorem rest_reg {d g : Nat} (hd : 1 ≤ d) (hd2 : d ≤ 64) (hg : g < 2 ^ d) {r0 : Nat} (hr0 : r0 < 2 ^ d) (l : List Bool) (xs : List Int) (hx : xs.length = l.length + d)
    (hX : ∀ m, m < l.length + d → xs.getD m 0 = b2i (l.getD m false ^^ (decide (m < d) && r0.testBit (d - 1 - m)))) :
    numF (divF (gF (g : Int) d d) xs l.length) l.length d = ((l.foldl (stepN d g) r0 : Nat) : Int) := by
  obtain ⟨h1, h2⟩ := gF_get hg hd2 d (Nat.le_refl _)
  have hinv := div_inv hd hg (gF_len (g : Int) d d) h1 h2 hr0 hx hX l.length (Nat.le_refl _)
  have hreg : ∀ i, i ≤ l.length → regN d g (fun m => l.getD m false) r0 i = (l.take i).foldl (stepN d g) r0 := by
    intro i
    induction i with
    | zero => intro _; rfl
    | succ i ih =>
      intro hi
      rw [regN, ih (by omega), foldl_take_succ (stepN d g) r0 l i (l.getD i false)]
      rw [List.getElem?_eq_getElem (by omega), List.getD, List.getElem?_eq_getElem (by omega)]; rfl
  have hend : regN d g (fun m => l.getD m false) r0 l.length = l.foldl (stepN d g) r0 := by rw [hreg _ (Nat.le_refl _), List.take_length]
  rw [num_reg hd2 (regN_lt hg hr0 l.length) (fun j hj => ?_) d (Nat.le_refl _), Nat.sub_self, Nat.pow_zero, Nat.div_one, hend]
  rw [hinv (l.length + j) (by omega) (by omega), decide_eq_true (by omega), Bool.true_and, Nat.add_sub_cancel_left]
  congr 1
  simp [List.getD]
end Go.Proofs.Ytejpcmjokamdcaa
end

section
/- Layer 1: bits, rest, Ten. -/
set_option linter.unusedVariables false
set_option linter.unusedSimpArgs false
namespace Go.Proofs.Ytejpcmjokamdcaa
open Go.Vc Go.RowKit

set_option maxRecDepth 100000 in
set_option maxHeartbeats 4000000 in
theorem bits1_any (L : Nat) (B n c Bd : Nat) (A : Option Addr) (bs : List Int) (hn : bs.length = n) (w : World) (J Jx : Nat → Nat → World → Prop) (M : Nat) (hJn : ∀ M k W W', J M k W → Step No W W' → J M k W') (hrd : ∀ M k W, J M k W → Own W B #[.slice A n c] 25 ∧ Sl W Bd A (iL .u8 bs)) (hJ : J M 0 w) (hlen : n < 1152921504606846976) (hy : ∀ k W args, M ≤ W.heap.size → (bitsV bs)[k]? = some args → J M k W → YV Try.prog L args W fun v W' => Step (fun i => i < w.heap.size ∨ M ≤ i) W W' ∧ (v = .bool true ∧ J M (k + 1) W' ∨ v = .bool false ∧ Jx M (k + 1) W')) (hM : M ≤ w.heap.size) :
  CV Try.prog 69 #[.func (.yield L) #[] #[], .pointer (some ⟨B, 0, none⟩)] w (fun _ w1 => J M (bitsV bs).length w1 ∨ ∃ k, k ≤ (bitsV bs).length ∧ Jx M k w1) := by
 obtain ⟨hB, hA⟩ := hrd _ _ _ hJ
 have hMz := hM
 refine CV_enter Try.f69 _ 25 [(0, .func (.yield L) #[] #[]), (1, .pointer (some ⟨B, 0, none⟩))] Try.func69 rfl rfl (by kernel_rfl) rfl ?_
 refine VC_seq ?_
 refine VC_region ?_
 refine VL_load (d := 6) (t := 25) (a := ⟨B, 0, none⟩) (v := .slice A n c) (by kernel_rfl) (by kernel_rfl) (Loads.own1 hB (by kernel_rfl) (by rfl)) ?_
 refine VL_pure 3 [0, 6, 7, 8] [(0, .func (.yield L) #[] #[]), (6, .slice A n c), (7, .int .i64 ((n : Nat) : Int)), (8, .int .i64 0)] (by kernel_rfl) rfl ?_
 refine VL_end (by kernel_rfl) ?_
 refine VQ_next ?_
 refine VC_block ?_
 refine VC_loop (σ := Nat) (fun σs => [(0, .func (.yield L) #[] #[]), (6, .slice A n c), (7, .int .i64 ((n : Nat) : Int)), (8, .int .i64 ((σs : Nat) : Int))]) (fun σs wr => σs ≤ n ∧ J M (8 * σs) wr ∧ M ≤ wr.heap.size ∧ Own wr B #[.slice A n c] 25 ∧ Sl wr Bd A (iL .u8 bs)) (fun σs wr => n - σs) 0 ⟨rfl, rfl, rfl, rfl, trivial⟩ ?_ ?_
 ·exact ⟨Nat.zero_le _, hJ, hM, hB, hA⟩
 rintro j wr ⟨hj0, hJ, hMz, hB, hA⟩
 try dsimp only at hj0 hJ hMz hB hA ⊢
 refine VC_seq ?_
 refine VC_region ?_
 refine VL_pure 1 [0, 6, 7, 8, 9] [(0, .func (.yield L) #[] #[]), (6, .slice A n c), (7, .int .i64 ((n : Nat) : Int)), (8, .int .i64 ((j : Nat) : Int)), (9, .bool (decide (((j : Nat) : Int) < ((n : Nat) : Int))))] (by kernel_rfl) rfl ?_
 refine VL_end (by kernel_rfl) ?_
 refine VQ_next ?_
 refine VC_seq ?_
 refine VC_dec (((j : Nat) : Int) < ((n : Nat) : Int)) (by kernel_rfl) (fun h1 => ?_) (fun h1 => ?_)
 ·refine VC_skip ?_
  refine VQ_next ?_
  refine VC_seq ?_
  refine VC_block ?_
  refine VC_seq ?_
  refine VC_region ?_
  obtain ⟨sb1, so1, rfl, hlbsb1⟩ := hA.open (by simp only [iL_length]; omega)
  refine VL_index (d := 10) (b := sb1) (o := so1) (len := n) (sz := 1) (m := ((j : Nat) : Int)) (by kernel_rfl) (by kernel_rfl) j (by rfl) (by omega) (so1 + j) (by omega) ?_
  refine VL_load (d := 11) (t := 5) (a := ⟨sb1, so1 + j, none⟩) (v := .int .u8 (bs.getD j 0)) (by kernel_rfl) (by kernel_rfl) (Sl.ldI hA (by kernel_rfl) j (by (try simp only [List.length_set, List.length_append, List.length_map, List.length_replicate, List.length_cons, List.length_nil, List.length_take, List.length_drop, List.length_range]) <;> omega)) ?_
  refine VL_pure 3 [0, 6, 7, 8, 4] [(0, .func (.yield L) #[] #[]), (6, .slice (some ⟨sb1, so1, none⟩) n c), (7, .int .i64 ((n : Nat) : Int)), (8, .int .i64 ((j : Nat) : Int)), (4, .int .u8 (bs.getD j 0))] (by kernel_rfl) rfl ?_
  refine VL_end (by kernel_rfl) ?_
  refine VQ_next ?_
  refine VC_seq ?_
  refine VC_region ?_
  refine VL_pure 1 [0, 6, 7, 8, 4, 5] [(0, .func (.yield L) #[] #[]), (6, .slice (some ⟨sb1, so1, none⟩) n c), (7, .int .i64 ((n : Nat) : Int)), (8, .int .i64 ((j : Nat) : Int)), (4, .int .u8 (bs.getD j 0)), (5, .int .i64 7)] (by kernel_rfl) rfl ?_
  refine VL_end (by kernel_rfl) ?_
  refine VQ_next ?_
  refine VC_block ?_
  refine VC_rounds ?_
  refine VCL_round ?_
  refine VC_seq ?_
  refine VC_seq ?_
  refine VC_region ?_
  refine VL_pure 2 [0, 6, 7, 8, 4, 5, 13] [(0, .func (.yield L) #[] #[]), (6, .slice (some ⟨sb1, so1, none⟩) n c), (7, .int .i64 ((n : Nat) : Int)), (8, .int .i64 ((j : Nat) : Int)), (4, .int .u8 (bs.getD j 0)), (5, .int .i64 7), (13, .bool true)] (by kernel_rfl) rfl ?_
  refine VL_end (by kernel_rfl) ?_
  refine VQ_next ?_
  refine VC_true (by kernel_rfl) ?_
  refine VC_skip ?_
  refine VQ_next ?_
  refine VC_seq ?_
  refine VC_block ?_
  refine VC_seq ?_
  refine VC_region ?_
  refine VL_pure 6 [0, 6, 7, 8, 4, 5, 16, 21] [(0, .func (.yield L) #[] #[]), (6, .slice (some ⟨sb1, so1, none⟩) n c), (7, .int .i64 ((n : Nat) : Int)), (8, .int .i64 ((j : Nat) : Int)), (4, .int .u8 (bs.getD j 0)), (5, .int .i64 7), (16, .func (.yield L) #[] #[]), (21, .bool ((bAnd .u8 ((bs.getD j 0).fdiv (2 ^ 7)) 1) == 1))] (by kernel_rfl) rfl ?_
  have hzk1 := hMz
  have hzl1 := hB.lt
  refine VL_yield (d := 22) (L := L) (args := #[.bool ((bAnd .u8 ((bs.getD j 0).fdiv (2 ^ 7)) 1) == 1)]) (by kernel_rfl) (by kernel_rfl) (by kernel_rfl) (hy (8 * j + 0) _ _ hMz (bitsV_get (i := 0) (by omega) (by decide) rfl) hJ) ?_
  rintro _ w1 ⟨hshy1, (⟨rfl, hy1⟩ | ⟨rfl, hy1⟩)⟩
  ·replace hMz := Nat.le_trans hMz hshy1.size
   have hJ := hy1
   obtain ⟨hB, hA⟩ := hrd _ _ _ hJ
   refine VL_pure 8 [0, 6, 7, 8, 4, 5, 23] [(0, .func (.yield L) #[] #[]), (6, .slice (some ⟨sb1, so1, none⟩) n c), (7, .int .i64 ((n : Nat) : Int)), (8, .int .i64 ((j : Nat) : Int)), (4, .int .u8 (bs.getD j 0)), (5, .int .i64 7), (23, .bool false)] (by kernel_rfl) rfl ?_
   refine VL_end (by kernel_rfl) ?_
   refine VQ_next ?_
   refine VC_false (by kernel_rfl) ?_
   refine VC_skip ?_
   refine VQ_block_normal ?_
   refine VQ_next ?_
   refine VC_region ?_
   refine VL_pure 3 [0, 6, 7, 8, 4, 5] [(0, .func (.yield L) #[] #[]), (6, .slice (some ⟨sb1, so1, none⟩) n c), (7, .int .i64 ((n : Nat) : Int)), (8, .int .i64 ((j : Nat) : Int)), (4, .int .u8 (bs.getD j 0)), (5, .int .i64 6)] (by kernel_rfl) rfl ?_
   refine VL_end (by kernel_rfl) ?_
   refine VQ_round ?_
   refine VCL_round ?_
   refine VC_seq ?_
   refine VC_seq ?_
   refine VC_region ?_
   refine VL_pure 2 [0, 6, 7, 8, 4, 5, 13] [(0, .func (.yield L) #[] #[]), (6, .slice (some ⟨sb1, so1, none⟩) n c), (7, .int .i64 ((n : Nat) : Int)), (8, .int .i64 ((j : Nat) : Int)), (4, .int .u8 (bs.getD j 0)), (5, .int .i64 6), (13, .bool true)] (by kernel_rfl) rfl ?_
   refine VL_end (by kernel_rfl) ?_
   refine VQ_next ?_
   refine VC_true (by kernel_rfl) ?_
   refine VC_skip ?_
   refine VQ_next ?_
   refine VC_seq ?_
   refine VC_block ?_
   refine VC_seq ?_
   refine VC_region ?_
   refine VL_pure 6 [0, 6, 7, 8, 4, 5, 16, 21] [(0, .func (.yield L) #[] #[]), (6, .slice (some ⟨sb1, so1, none⟩) n c), (7, .int .i64 ((n : Nat) : Int)), (8, .int .i64 ((j : Nat) : Int)), (4, .int .u8 (bs.getD j 0)), (5, .int .i64 6), (16, .func (.yield L) #[] #[]), (21, .bool ((bAnd .u8 ((bs.getD j 0).fdiv (2 ^ 6)) 1) == 1))] (by kernel_rfl) rfl ?_
   have hzk2 := hMz
   have hzl2 := hB.lt
   refine VL_yield (d := 22) (L := L) (args := #[.bool ((bAnd .u8 ((bs.getD j 0).fdiv (2 ^ 6)) 1) == 1)]) (by kernel_rfl) (by kernel_rfl) (by kernel_rfl) (hy (8 * j + 1) _ _ hMz (bitsV_get (i := 1) (by omega) (by decide) rfl) hJ) ?_
   rintro _ w2 ⟨hshy2, (⟨rfl, hy2⟩ | ⟨rfl, hy2⟩)⟩
   ·replace hMz := Nat.le_trans hMz hshy2.size
    have hJ := hy2
    obtain ⟨hB, hA⟩ := hrd _ _ _ hJ
    refine VL_pure 8 [0, 6, 7, 8, 4, 5, 23] [(0, .func (.yield L) #[] #[]), (6, .slice (some ⟨sb1, so1, none⟩) n c), (7, .int .i64 ((n : Nat) : Int)), (8, .int .i64 ((j : Nat) : Int)), (4, .int .u8 (bs.getD j 0)), (5, .int .i64 6), (23, .bool false)] (by kernel_rfl) rfl ?_
    refine VL_end (by kernel_rfl) ?_
    refine VQ_next ?_
    refine VC_false (by kernel_rfl) ?_
    refine VC_skip ?_
    refine VQ_block_normal ?_
    refine VQ_next ?_
    refine VC_region ?_
    refine VL_pure 3 [0, 6, 7, 8, 4, 5] [(0, .func (.yield L) #[] #[]), (6, .slice (some ⟨sb1, so1, none⟩) n c), (7, .int .i64 ((n : Nat) : Int)), (8, .int .i64 ((j : Nat) : Int)), (4, .int .u8 (bs.getD j 0)), (5, .int .i64 5)] (by kernel_rfl) rfl ?_
    refine VL_end (by kernel_rfl) ?_
    refine VQ_round ?_
    refine VCL_round ?_
    refine VC_seq ?_
    refine VC_seq ?_
    refine VC_region ?_
    refine VL_pure 2 [0, 6, 7, 8, 4, 5, 13] [(0, .func (.yield L) #[] #[]), (6, .slice (some ⟨sb1, so1, none⟩) n c), (7, .int .i64 ((n : Nat) : Int)), (8, .int .i64 ((j : Nat) : Int)), (4, .int .u8 (bs.getD j 0)), (5, .int .i64 5), (13, .bool true)] (by kernel_rfl) rfl ?_
    refine VL_end (by kernel_rfl) ?_
    refine VQ_next ?_
    refine VC_true (by kernel_rfl) ?_
    refine VC_skip ?_
    refine VQ_next ?_
    refine VC_seq ?_
    refine VC_block ?_
    refine VC_seq ?_
    refine VC_region ?_
    refine VL_pure 6 [0, 6, 7, 8, 4, 5, 16, 21] [(0, .func (.yield L) #[] #[]), (6, .slice (some ⟨sb1, so1, none⟩) n c), (7, .int .i64 ((n : Nat) : Int)), (8, .int .i64 ((j : Nat) : Int)), (4, .int .u8 (bs.getD j 0)), (5, .int .i64 5), (16, .func (.yield L) #[] #[]), (21, .bool ((bAnd .u8 ((bs.getD j 0).fdiv (2 ^ 5)) 1) == 1))] (by kernel_rfl) rfl ?_
    have hzk3 := hMz
    have hzl3 := hB.lt
    refine VL_yield (d := 22) (L := L) (args := #[.bool ((bAnd .u8 ((bs.getD j 0).fdiv (2 ^ 5)) 1) == 1)]) (by kernel_rfl) (by kernel_rfl) (by kernel_rfl) (hy (8 * j + 2) _ _ hMz (bitsV_get (i := 2) (by omega) (by decide) rfl) hJ) ?_
    rintro _ w3 ⟨hshy3, (⟨rfl, hy3⟩ | ⟨rfl, hy3⟩)⟩
    ·replace hMz := Nat.le_trans hMz hshy3.size
     have hJ := hy3
     obtain ⟨hB, hA⟩ := hrd _ _ _ hJ
     refine VL_pure 8 [0, 6, 7, 8, 4, 5, 23] [(0, .func (.yield L) #[] #[]), (6, .slice (some ⟨sb1, so1, none⟩) n c), (7, .int .i64 ((n : Nat) : Int)), (8, .int .i64 ((j : Nat) : Int)), (4, .int .u8 (bs.getD j 0)), (5, .int .i64 5), (23, .bool false)] (by kernel_rfl) rfl ?_
     refine VL_end (by kernel_rfl) ?_
     refine VQ_next ?_
     refine VC_false (by kernel_rfl) ?_
     refine VC_skip ?_
     refine VQ_block_normal ?_
     refine VQ_next ?_
     refine VC_region ?_
     refine VL_pure 3 [0, 6, 7, 8, 4, 5] [(0, .func (.yield L) #[] #[]), (6, .slice (some ⟨sb1, so1, none⟩) n c), (7, .int .i64 ((n : Nat) : Int)), (8, .int .i64 ((j : Nat) : Int)), (4, .int .u8 (bs.getD j 0)), (5, .int .i64 4)] (by kernel_rfl) rfl ?_
     refine VL_end (by kernel_rfl) ?_
     refine VQ_round ?_
     refine VCL_round ?_
     refine VC_seq ?_
     refine VC_seq ?_
     refine VC_region ?_
     refine VL_pure 2 [0, 6, 7, 8, 4, 5, 13] [(0, .func (.yield L) #[] #[]), (6, .slice (some ⟨sb1, so1, none⟩) n c), (7, .int .i64 ((n : Nat) : Int)), (8, .int .i64 ((j : Nat) : Int)), (4, .int .u8 (bs.getD j 0)), (5, .int .i64 4), (13, .bool true)] (by kernel_rfl) rfl ?_
     refine VL_end (by kernel_rfl) ?_
     refine VQ_next ?_
     refine VC_true (by kernel_rfl) ?_
     refine VC_skip ?_
     refine VQ_next ?_
     refine VC_seq ?_
     refine VC_block ?_
     refine VC_seq ?_
     refine VC_region ?_
     refine VL_pure 6 [0, 6, 7, 8, 4, 5, 16, 21] [(0, .func (.yield L) #[] #[]), (6, .slice (some ⟨sb1, so1, none⟩) n c), (7, .int .i64 ((n : Nat) : Int)), (8, .int .i64 ((j : Nat) : Int)), (4, .int .u8 (bs.getD j 0)), (5, .int .i64 4), (16, .func (.yield L) #[] #[]), (21, .bool ((bAnd .u8 ((bs.getD j 0).fdiv (2 ^ 4)) 1) == 1))] (by kernel_rfl) rfl ?_
     have hzk4 := hMz
     have hzl4 := hB.lt
     refine VL_yield (d := 22) (L := L) (args := #[.bool ((bAnd .u8 ((bs.getD j 0).fdiv (2 ^ 4)) 1) == 1)]) (by kernel_rfl) (by kernel_rfl) (by kernel_rfl) (hy (8 * j + 3) _ _ hMz (bitsV_get (i := 3) (by omega) (by decide) rfl) hJ) ?_
     rintro _ w4 ⟨hshy4, (⟨rfl, hy4⟩ | ⟨rfl, hy4⟩)⟩
     ·replace hMz := Nat.le_trans hMz hshy4.size
      have hJ := hy4
      obtain ⟨hB, hA⟩ := hrd _ _ _ hJ
      refine VL_pure 8 [0, 6, 7, 8, 4, 5, 23] [(0, .func (.yield L) #[] #[]), (6, .slice (some ⟨sb1, so1, none⟩) n c), (7, .int .i64 ((n : Nat) : Int)), (8, .int .i64 ((j : Nat) : Int)), (4, .int .u8 (bs.getD j 0)), (5, .int .i64 4), (23, .bool false)] (by kernel_rfl) rfl ?_
      refine VL_end (by kernel_rfl) ?_
      refine VQ_next ?_
      refine VC_false (by kernel_rfl) ?_
      refine VC_skip ?_
      refine VQ_block_normal ?_
      refine VQ_next ?_
      refine VC_region ?_
      refine VL_pure 3 [0, 6, 7, 8, 4, 5] [(0, .func (.yield L) #[] #[]), (6, .slice (some ⟨sb1, so1, none⟩) n c), (7, .int .i64 ((n : Nat) : Int)), (8, .int .i64 ((j : Nat) : Int)), (4, .int .u8 (bs.getD j 0)), (5, .int .i64 3)] (by kernel_rfl) rfl ?_
      refine VL_end (by kernel_rfl) ?_
      refine VQ_round ?_
      refine VCL_round ?_
      refine VC_seq ?_
      refine VC_seq ?_
      refine VC_region ?_
      refine VL_pure 2 [0, 6, 7, 8, 4, 5, 13] [(0, .func (.yield L) #[] #[]), (6, .slice (some ⟨sb1, so1, none⟩) n c), (7, .int .i64 ((n : Nat) : Int)), (8, .int .i64 ((j : Nat) : Int)), (4, .int .u8 (bs.getD j 0)), (5, .int .i64 3), (13, .bool true)] (by kernel_rfl) rfl ?_
      refine VL_end (by kernel_rfl) ?_
      refine VQ_next ?_
      refine VC_true (by kernel_rfl) ?_
      refine VC_skip ?_
      refine VQ_next ?_
      refine VC_seq ?_
      refine VC_block ?_
      refine VC_seq ?_
      refine VC_region ?_
      refine VL_pure 6 [0, 6, 7, 8, 4, 5, 16, 21] [(0, .func (.yield L) #[] #[]), (6, .slice (some ⟨sb1, so1, none⟩) n c), (7, .int .i64 ((n : Nat) : Int)), (8, .int .i64 ((j : Nat) : Int)), (4, .int .u8 (bs.getD j 0)), (5, .int .i64 3), (16, .func (.yield L) #[] #[]), (21, .bool ((bAnd .u8 ((bs.getD j 0).fdiv (2 ^ 3)) 1) == 1))] (by kernel_rfl) rfl ?_
      have hzk5 := hMz
      have hzl5 := hB.lt
      refine VL_yield (d := 22) (L := L) (args := #[.bool ((bAnd .u8 ((bs.getD j 0).fdiv (2 ^ 3)) 1) == 1)]) (by kernel_rfl) (by kernel_rfl) (by kernel_rfl) (hy (8 * j + 4) _ _ hMz (bitsV_get (i := 4) (by omega) (by decide) rfl) hJ) ?_
      rintro _ w5 ⟨hshy5, (⟨rfl, hy5⟩ | ⟨rfl, hy5⟩)⟩
      ·replace hMz := Nat.le_trans hMz hshy5.size
       have hJ := hy5
       obtain ⟨hB, hA⟩ := hrd _ _ _ hJ
       refine VL_pure 8 [0, 6, 7, 8, 4, 5, 23] [(0, .func (.yield L) #[] #[]), (6, .slice (some ⟨sb1, so1, none⟩) n c), (7, .int .i64 ((n : Nat) : Int)), (8, .int .i64 ((j : Nat) : Int)), (4, .int .u8 (bs.getD j 0)), (5, .int .i64 3), (23, .bool false)] (by kernel_rfl) rfl ?_
       refine VL_end (by kernel_rfl) ?_
       refine VQ_next ?_
       refine VC_false (by kernel_rfl) ?_
       refine VC_skip ?_
       refine VQ_block_normal ?_
       refine VQ_next ?_
       refine VC_region ?_
       refine VL_pure 3 [0, 6, 7, 8, 4, 5] [(0, .func (.yield L) #[] #[]), (6, .slice (some ⟨sb1, so1, none⟩) n c), (7, .int .i64 ((n : Nat) : Int)), (8, .int .i64 ((j : Nat) : Int)), (4, .int .u8 (bs.getD j 0)), (5, .int .i64 2)] (by kernel_rfl) rfl ?_
       refine VL_end (by kernel_rfl) ?_
       refine VQ_round ?_
       refine VCL_round ?_
       refine VC_seq ?_
       refine VC_seq ?_
       refine VC_region ?_
       refine VL_pure 2 [0, 6, 7, 8, 4, 5, 13] [(0, .func (.yield L) #[] #[]), (6, .slice (some ⟨sb1, so1, none⟩) n c), (7, .int .i64 ((n : Nat) : Int)), (8, .int .i64 ((j : Nat) : Int)), (4, .int .u8 (bs.getD j 0)), (5, .int .i64 2), (13, .bool true)] (by kernel_rfl) rfl ?_
       refine VL_end (by kernel_rfl) ?_
       refine VQ_next ?_
       refine VC_true (by kernel_rfl) ?_
       refine VC_skip ?_
       refine VQ_next ?_
       refine VC_seq ?_
       refine VC_block ?_
       refine VC_seq ?_
       refine VC_region ?_
       refine VL_pure 6 [0, 6, 7, 8, 4, 5, 16, 21] [(0, .func (.yield L) #[] #[]), (6, .slice (some ⟨sb1, so1, none⟩) n c), (7, .int .i64 ((n : Nat) : Int)), (8, .int .i64 ((j : Nat) : Int)), (4, .int .u8 (bs.getD j 0)), (5, .int .i64 2), (16, .func (.yield L) #[] #[]), (21, .bool ((bAnd .u8 ((bs.getD j 0).fdiv (2 ^ 2)) 1) == 1))] (by kernel_rfl) rfl ?_
       have hzk6 := hMz
       have hzl6 := hB.lt
       refine VL_yield (d := 22) (L := L) (args := #[.bool ((bAnd .u8 ((bs.getD j 0).fdiv (2 ^ 2)) 1) == 1)]) (by kernel_rfl) (by kernel_rfl) (by kernel_rfl) (hy (8 * j + 5) _ _ hMz (bitsV_get (i := 5) (by omega) (by decide) rfl) hJ) ?_
       rintro _ w6 ⟨hshy6, (⟨rfl, hy6⟩ | ⟨rfl, hy6⟩)⟩
       ·replace hMz := Nat.le_trans hMz hshy6.size
        have hJ := hy6
        obtain ⟨hB, hA⟩ := hrd _ _ _ hJ
        refine VL_pure 8 [0, 6, 7, 8, 4, 5, 23] [(0, .func (.yield L) #[] #[]), (6, .slice (some ⟨sb1, so1, none⟩) n c), (7, .int .i64 ((n : Nat) : Int)), (8, .int .i64 ((j : Nat) : Int)), (4, .int .u8 (bs.getD j 0)), (5, .int .i64 2), (23, .bool false)] (by kernel_rfl) rfl ?_
        refine VL_end (by kernel_rfl) ?_
        refine VQ_next ?_
        refine VC_false (by kernel_rfl) ?_
        refine VC_skip ?_
        refine VQ_block_normal ?_
        refine VQ_next ?_
        refine VC_region ?_
        refine VL_pure 3 [0, 6, 7, 8, 4, 5] [(0, .func (.yield L) #[] #[]), (6, .slice (some ⟨sb1, so1, none⟩) n c), (7, .int .i64 ((n : Nat) : Int)), (8, .int .i64 ((j : Nat) : Int)), (4, .int .u8 (bs.getD j 0)), (5, .int .i64 1)] (by kernel_rfl) rfl ?_
        refine VL_end (by kernel_rfl) ?_
        refine VQ_round ?_
        refine VCL_round ?_
        refine VC_seq ?_
        refine VC_seq ?_
        refine VC_region ?_
        refine VL_pure 2 [0, 6, 7, 8, 4, 5, 13] [(0, .func (.yield L) #[] #[]), (6, .slice (some ⟨sb1, so1, none⟩) n c), (7, .int .i64 ((n : Nat) : Int)), (8, .int .i64 ((j : Nat) : Int)), (4, .int .u8 (bs.getD j 0)), (5, .int .i64 1), (13, .bool true)] (by kernel_rfl) rfl ?_
        refine VL_end (by kernel_rfl) ?_
        refine VQ_next ?_
        refine VC_true (by kernel_rfl) ?_
        refine VC_skip ?_
        refine VQ_next ?_
        refine VC_seq ?_
        refine VC_block ?_
        refine VC_seq ?_
        refine VC_region ?_
        refine VL_pure 6 [0, 6, 7, 8, 4, 5, 16, 21] [(0, .func (.yield L) #[] #[]), (6, .slice (some ⟨sb1, so1, none⟩) n c), (7, .int .i64 ((n : Nat) : Int)), (8, .int .i64 ((j : Nat) : Int)), (4, .int .u8 (bs.getD j 0)), (5, .int .i64 1), (16, .func (.yield L) #[] #[]), (21, .bool ((bAnd .u8 ((bs.getD j 0).fdiv (2 ^ 1)) 1) == 1))] (by kernel_rfl) rfl ?_
        have hzk7 := hMz
        have hzl7 := hB.lt
        refine VL_yield (d := 22) (L := L) (args := #[.bool ((bAnd .u8 ((bs.getD j 0).fdiv (2 ^ 1)) 1) == 1)]) (by kernel_rfl) (by kernel_rfl) (by kernel_rfl) (hy (8 * j + 6) _ _ hMz (bitsV_get (i := 6) (by omega) (by decide) rfl) hJ) ?_
        rintro _ w7 ⟨hshy7, (⟨rfl, hy7⟩ | ⟨rfl, hy7⟩)⟩
        ·replace hMz := Nat.le_trans hMz hshy7.size
         have hJ := hy7
         obtain ⟨hB, hA⟩ := hrd _ _ _ hJ
         refine VL_pure 8 [0, 6, 7, 8, 4, 5, 23] [(0, .func (.yield L) #[] #[]), (6, .slice (some ⟨sb1, so1, none⟩) n c), (7, .int .i64 ((n : Nat) : Int)), (8, .int .i64 ((j : Nat) : Int)), (4, .int .u8 (bs.getD j 0)), (5, .int .i64 1), (23, .bool false)] (by kernel_rfl) rfl ?_
         refine VL_end (by kernel_rfl) ?_
         refine VQ_next ?_
         refine VC_false (by kernel_rfl) ?_
         refine VC_skip ?_
         refine VQ_block_normal ?_
         refine VQ_next ?_
         refine VC_region ?_
         refine VL_pure 3 [0, 6, 7, 8, 4, 5] [(0, .func (.yield L) #[] #[]), (6, .slice (some ⟨sb1, so1, none⟩) n c), (7, .int .i64 ((n : Nat) : Int)), (8, .int .i64 ((j : Nat) : Int)), (4, .int .u8 (bs.getD j 0)), (5, .int .i64 0)] (by kernel_rfl) rfl ?_
         refine VL_end (by kernel_rfl) ?_
         refine VQ_round ?_
         refine VCL_round ?_
         refine VC_seq ?_
         refine VC_seq ?_
         refine VC_region ?_
         refine VL_pure 2 [0, 6, 7, 8, 4, 5, 13] [(0, .func (.yield L) #[] #[]), (6, .slice (some ⟨sb1, so1, none⟩) n c), (7, .int .i64 ((n : Nat) : Int)), (8, .int .i64 ((j : Nat) : Int)), (4, .int .u8 (bs.getD j 0)), (5, .int .i64 0), (13, .bool true)] (by kernel_rfl) rfl ?_
         refine VL_end (by kernel_rfl) ?_
         refine VQ_next ?_
         refine VC_true (by kernel_rfl) ?_
         refine VC_skip ?_
         refine VQ_next ?_
         refine VC_seq ?_
         refine VC_block ?_
         refine VC_seq ?_
         refine VC_region ?_
         refine VL_pure 6 [0, 6, 7, 8, 4, 5, 16, 21] [(0, .func (.yield L) #[] #[]), (6, .slice (some ⟨sb1, so1, none⟩) n c), (7, .int .i64 ((n : Nat) : Int)), (8, .int .i64 ((j : Nat) : Int)), (4, .int .u8 (bs.getD j 0)), (5, .int .i64 0), (16, .func (.yield L) #[] #[]), (21, .bool ((bAnd .u8 ((bs.getD j 0).fdiv (2 ^ 0)) 1) == 1))] (by kernel_rfl) rfl ?_
         have hzk8 := hMz
         have hzl8 := hB.lt
         refine VL_yield (d := 22) (L := L) (args := #[.bool ((bAnd .u8 ((bs.getD j 0).fdiv (2 ^ 0)) 1) == 1)]) (by kernel_rfl) (by kernel_rfl) (by kernel_rfl) (hy (8 * j + 7) _ _ hMz (bitsV_get (i := 7) (by omega) (by decide) rfl) hJ) ?_
         rintro _ w8 ⟨hshy8, (⟨rfl, hy8⟩ | ⟨rfl, hy8⟩)⟩
         ·replace hMz := Nat.le_trans hMz hshy8.size
          have hJ := hy8
          obtain ⟨hB, hA⟩ := hrd _ _ _ hJ
          refine VL_pure 8 [0, 6, 7, 8, 4, 5, 23] [(0, .func (.yield L) #[] #[]), (6, .slice (some ⟨sb1, so1, none⟩) n c), (7, .int .i64 ((n : Nat) : Int)), (8, .int .i64 ((j : Nat) : Int)), (4, .int .u8 (bs.getD j 0)), (5, .int .i64 0), (23, .bool false)] (by kernel_rfl) rfl ?_
          refine VL_end (by kernel_rfl) ?_
          refine VQ_next ?_
          refine VC_false (by kernel_rfl) ?_
          refine VC_skip ?_
          refine VQ_block_normal ?_
          refine VQ_next ?_
          refine VC_region ?_
          refine VL_pure 3 [0, 6, 7, 8, 4, 5] [(0, .func (.yield L) #[] #[]), (6, .slice (some ⟨sb1, so1, none⟩) n c), (7, .int .i64 ((n : Nat) : Int)), (8, .int .i64 ((j : Nat) : Int)), (4, .int .u8 (bs.getD j 0)), (5, .int .i64 (-1))] (by kernel_rfl) rfl ?_
          refine VL_end (by kernel_rfl) ?_
          refine VQ_round ?_
          refine VCL_round ?_
          refine VC_seq ?_
          refine VC_seq ?_
          refine VC_region ?_
          refine VL_pure 2 [0, 6, 7, 8, 4, 5, 13] [(0, .func (.yield L) #[] #[]), (6, .slice (some ⟨sb1, so1, none⟩) n c), (7, .int .i64 ((n : Nat) : Int)), (8, .int .i64 ((j : Nat) : Int)), (4, .int .u8 (bs.getD j 0)), (5, .int .i64 (-1)), (13, .bool false)] (by kernel_rfl) rfl ?_
          refine VL_end (by kernel_rfl) ?_
          refine VQ_next ?_
          refine VC_false (by kernel_rfl) ?_
          refine VC_exit ?_
          refine VQ_then_exit ?_
          refine VQ_then_exit ?_
          refine VQ_block_hit ?_
          refine VQ_block_normal ?_
          refine VQ_next ?_
          refine VC_region ?_
          refine VL_pure 1 [0, 6, 7, 24] [(0, .func (.yield L) #[] #[]), (6, .slice (some ⟨sb1, so1, none⟩) n c), (7, .int .i64 ((n : Nat) : Int)), (24, .int .i64 (IntKind.wrap .i64 (((j : Nat) : Int) + 1)))] (by kernel_rfl) rfl ?_
          have he1 : IntKind.wrap .i64 (((j : Nat) : Int) + 1) = ((j + 1 : Nat) : Int) := (by rw [wrap_i64 _ (by omega) (by omega)]; omega)
          refine VL_eq [(0, .func (.yield L) #[] #[]), (6, .slice (some ⟨sb1, so1, none⟩) n c), (7, .int .i64 ((n : Nat) : Int)), (24, .int .i64 ((j + 1 : Nat) : Int))] (by rw [he1]) ?_
          refine VL_pure 2 [0, 6, 7, 8] [(0, .func (.yield L) #[] #[]), (6, .slice (some ⟨sb1, so1, none⟩) n c), (7, .int .i64 ((n : Nat) : Int)), (8, .int .i64 ((j + 1 : Nat) : Int))] (by kernel_rfl) rfl ?_
          refine VL_end (by kernel_rfl) ?_
          refine VQ_again (j + 1) ⟨rfl, rfl, rfl, rfl, trivial⟩ ?_ ?_
          ·exact ⟨by omega, hJ, hMz, hB, hA⟩
          ·(try dsimp only); omega
         ·refine VL_pure 8 [0, 6, 7, 8, 4, 5, 23] [(0, .func (.yield L) #[] #[]), (6, .slice (some ⟨sb1, so1, none⟩) n c), (7, .int .i64 ((n : Nat) : Int)), (8, .int .i64 ((j : Nat) : Int)), (4, .int .u8 (bs.getD j 0)), (5, .int .i64 0), (23, .bool true)] (by kernel_rfl) rfl ?_
          refine VL_end (by kernel_rfl) ?_
          refine VQ_next ?_
          refine VC_true (by kernel_rfl) ?_
          refine VC_ret ?_
          refine VQ_block_ret ?_
          refine VQ_then_ret ?_
          refine VQ_then_ret ?_
          refine VQ_block_ret ?_
          refine VQ_block_ret ?_
          refine VQ_then_ret ?_
          refine VQ_then_ret ?_
          refine VQ_block_ret ?_
          refine VQ_ret0 (.inr rfl) rfl ?_
          exact .inr ⟨_, by rw [bitsV_len]; omega, hy8⟩
        ·refine VL_pure 8 [0, 6, 7, 8, 4, 5, 23] [(0, .func (.yield L) #[] #[]), (6, .slice (some ⟨sb1, so1, none⟩) n c), (7, .int .i64 ((n : Nat) : Int)), (8, .int .i64 ((j : Nat) : Int)), (4, .int .u8 (bs.getD j 0)), (5, .int .i64 1), (23, .bool true)] (by kernel_rfl) rfl ?_
         refine VL_end (by kernel_rfl) ?_
         refine VQ_next ?_
         refine VC_true (by kernel_rfl) ?_
         refine VC_ret ?_
         refine VQ_block_ret ?_
         refine VQ_then_ret ?_
         refine VQ_then_ret ?_
         refine VQ_block_ret ?_
         refine VQ_block_ret ?_
         refine VQ_then_ret ?_
         refine VQ_then_ret ?_
         refine VQ_block_ret ?_
         refine VQ_ret0 (.inr rfl) rfl ?_
         exact .inr ⟨_, by rw [bitsV_len]; omega, hy7⟩
       ·refine VL_pure 8 [0, 6, 7, 8, 4, 5, 23] [(0, .func (.yield L) #[] #[]), (6, .slice (some ⟨sb1, so1, none⟩) n c), (7, .int .i64 ((n : Nat) : Int)), (8, .int .i64 ((j : Nat) : Int)), (4, .int .u8 (bs.getD j 0)), (5, .int .i64 2), (23, .bool true)] (by kernel_rfl) rfl ?_
        refine VL_end (by kernel_rfl) ?_
        refine VQ_next ?_
        refine VC_true (by kernel_rfl) ?_
        refine VC_ret ?_
        refine VQ_block_ret ?_
        refine VQ_then_ret ?_
        refine VQ_then_ret ?_
        refine VQ_block_ret ?_
        refine VQ_block_ret ?_
        refine VQ_then_ret ?_
        refine VQ_then_ret ?_
        refine VQ_block_ret ?_
        refine VQ_ret0 (.inr rfl) rfl ?_
        exact .inr ⟨_, by rw [bitsV_len]; omega, hy6⟩
      ·refine VL_pure 8 [0, 6, 7, 8, 4, 5, 23] [(0, .func (.yield L) #[] #[]), (6, .slice (some ⟨sb1, so1, none⟩) n c), (7, .int .i64 ((n : Nat) : Int)), (8, .int .i64 ((j : Nat) : Int)), (4, .int .u8 (bs.getD j 0)), (5, .int .i64 3), (23, .bool true)] (by kernel_rfl) rfl ?_
       refine VL_end (by kernel_rfl) ?_
       refine VQ_next ?_
       refine VC_true (by kernel_rfl) ?_
       refine VC_ret ?_
       refine VQ_block_ret ?_
       refine VQ_then_ret ?_
       refine VQ_then_ret ?_
       refine VQ_block_ret ?_
       refine VQ_block_ret ?_
       refine VQ_then_ret ?_
       refine VQ_then_ret ?_
       refine VQ_block_ret ?_
       refine VQ_ret0 (.inr rfl) rfl ?_
       exact .inr ⟨_, by rw [bitsV_len]; omega, hy5⟩
     ·refine VL_pure 8 [0, 6, 7, 8, 4, 5, 23] [(0, .func (.yield L) #[] #[]), (6, .slice (some ⟨sb1, so1, none⟩) n c), (7, .int .i64 ((n : Nat) : Int)), (8, .int .i64 ((j : Nat) : Int)), (4, .int .u8 (bs.getD j 0)), (5, .int .i64 4), (23, .bool true)] (by kernel_rfl) rfl ?_
      refine VL_end (by kernel_rfl) ?_
      refine VQ_next ?_
      refine VC_true (by kernel_rfl) ?_
      refine VC_ret ?_
      refine VQ_block_ret ?_
      refine VQ_then_ret ?_
      refine VQ_then_ret ?_
      refine VQ_block_ret ?_
      refine VQ_block_ret ?_
      refine VQ_then_ret ?_
      refine VQ_then_ret ?_
      refine VQ_block_ret ?_
      refine VQ_ret0 (.inr rfl) rfl ?_
      exact .inr ⟨_, by rw [bitsV_len]; omega, hy4⟩
    ·refine VL_pure 8 [0, 6, 7, 8, 4, 5, 23] [(0, .func (.yield L) #[] #[]), (6, .slice (some ⟨sb1, so1, none⟩) n c), (7, .int .i64 ((n : Nat) : Int)), (8, .int .i64 ((j : Nat) : Int)), (4, .int .u8 (bs.getD j 0)), (5, .int .i64 5), (23, .bool true)] (by kernel_rfl) rfl ?_
     refine VL_end (by kernel_rfl) ?_
     refine VQ_next ?_
     refine VC_true (by kernel_rfl) ?_
     refine VC_ret ?_
     refine VQ_block_ret ?_
     refine VQ_then_ret ?_
     refine VQ_then_ret ?_
     refine VQ_block_ret ?_
     refine VQ_block_ret ?_
     refine VQ_then_ret ?_
     refine VQ_then_ret ?_
     refine VQ_block_ret ?_
     refine VQ_ret0 (.inr rfl) rfl ?_
     exact .inr ⟨_, by rw [bitsV_len]; omega, hy3⟩
   ·refine VL_pure 8 [0, 6, 7, 8, 4, 5, 23] [(0, .func (.yield L) #[] #[]), (6, .slice (some ⟨sb1, so1, none⟩) n c), (7, .int .i64 ((n : Nat) : Int)), (8, .int .i64 ((j : Nat) : Int)), (4, .int .u8 (bs.getD j 0)), (5, .int .i64 6), (23, .bool true)] (by kernel_rfl) rfl ?_
    refine VL_end (by kernel_rfl) ?_
    refine VQ_next ?_
    refine VC_true (by kernel_rfl) ?_
    refine VC_ret ?_
    refine VQ_block_ret ?_
    refine VQ_then_ret ?_
    refine VQ_then_ret ?_
    refine VQ_block_ret ?_
    refine VQ_block_ret ?_
    refine VQ_then_ret ?_
    refine VQ_then_ret ?_
    refine VQ_block_ret ?_
    refine VQ_ret0 (.inr rfl) rfl ?_
    exact .inr ⟨_, by rw [bitsV_len]; omega, hy2⟩
  ·refine VL_pure 8 [0, 6, 7, 8, 4, 5, 23] [(0, .func (.yield L) #[] #[]), (6, .slice (some ⟨sb1, so1, none⟩) n c), (7, .int .i64 ((n : Nat) : Int)), (8, .int .i64 ((j : Nat) : Int)), (4, .int .u8 (bs.getD j 0)), (5, .int .i64 7), (23, .bool true)] (by kernel_rfl) rfl ?_
   refine VL_end (by kernel_rfl) ?_
   refine VQ_next ?_
   refine VC_true (by kernel_rfl) ?_
   refine VC_ret ?_
   refine VQ_block_ret ?_
   refine VQ_then_ret ?_
   refine VQ_then_ret ?_
   refine VQ_block_ret ?_
   refine VQ_block_ret ?_
   refine VQ_then_ret ?_
   refine VQ_then_ret ?_
   refine VQ_block_ret ?_
   refine VQ_ret0 (.inr rfl) rfl ?_
   exact .inr ⟨_, by rw [bitsV_len]; omega, hy1⟩
 ·refine VC_exit ?_
  refine VQ_then_exit ?_
  refine VQ_then_exit ?_
  refine VQ_block_hit ?_
  refine VQ_ret0 (.inl rfl) rfl ?_
  obtain rfl : j = n := by omega
  exact .inl (by rw [bitsV_len, hn]; exact hJ)

theorem bits_iter (B n c Bd : Nat) (A : Option Addr) (bs : List Int) (hn : bs.length = n) (hlen : n < 1152921504606846976) :
    IterC Try.prog 69 #[.pointer (some ⟨B, 0, none⟩)] (bitsV bs) (fun _ W => Own W B #[.slice A n c] 25 ∧ Sl W Bd A (iL .u8 bs)) := by
  intro L W0 J Jx hJn hJxn hrd hrd0 h0 hy
  refine CV.mono (bits1_any L B n c Bd A bs hn W0 J Jx W0.heap.size hJn hrd (h0 _ _ (Nat.le_refl _) (Nat.le_refl _) (Step.refl _ _)) hlen (fun k W args hM hx hj => hy _ k W args (Nat.le_refl _) hM hx hj) (Nat.le_refl _)) fun v W' hh => ⟨_, Nat.le_refl _, hh⟩
set_option maxRecDepth 100000 in
set_option maxHeartbeats 4000000 in
theorem bits_any (A : Option Addr) (n c : Nat) (w : World) :
  CV Try.prog 68 #[.slice A n c] w (fun x w1 => ∃ B, x = .func (.func 69) #[] #[.pointer (some ⟨B, 0, none⟩)] ∧ ¬ B < w.heap.size ∧ Own w1 B #[.slice A n c] 25 ∧ Step No w w1) := by
 have hS : Step No w w := Step.refl _ _
 refine CV_enter Try.f68 _ 4 [(0, .slice A n c)] Try.func68 rfl rfl (by kernel_rfl) rfl ?_
 refine VC_seq ?_
 refine VC_region ?_
 have hzs1 := hS.size
 refine VL_box (d := 1) (t := 25) (c := #[.slice A n c]) (by kernel_rfl) (by kernel_rfl) ?_
 intro b1 w1 hn1
 replace hS := Step.trans hS (hn1.step No)
 have ho1 := hn1.own
 have hzhn1 := hn1.size
 have hqhn1 := hn1.eqb
 refine VL_pure 2 [1] [(1, .pointer (some ⟨b1, 0, none⟩))] (by kernel_rfl) rfl ?_
 refine VL_end (by kernel_rfl) ?_
 refine VQ_next ?_
 refine VC_seq ?_
 refine VC_region ?_
 refine VL_pure 2 [2] [(2, .func (.func 69) #[] #[.pointer (some ⟨b1, 0, none⟩)])] (by kernel_rfl) rfl ?_
 refine VL_end (by kernel_rfl) ?_
 refine VQ_next ?_
 refine VC_ret ?_
 refine VQ_ret1 (.func (.func 69) #[] #[.pointer (some ⟨b1, 0, none⟩)]) (.inr rfl) rfl rfl ?_
 exact ⟨b1, rfl, by omega, ho1, hS⟩

set_option maxRecDepth 100000 in
set_option maxHeartbeats 4000000 in
theorem rest_any (A : Option Addr) (n c Bd : Nat) (bs : List Int) (w : World) (hn : bs.length = n) (hA : Sl w Bd A (iL .u8 bs)) (r top by_ : Int) (hlen : n < 1152921504606846976) (hBd : Bd ≤ w.heap.size) :
  CV Try.prog 65 #[.slice A n c, .int .u32 r, .int .u32 top, .int .u32 by_] w (fun x w1 => x = .int .u32 (restB bs r top by_) ∧ Step No w w1) := by
 have hS : Step No w w := Step.refl _ _
 refine CV_enterM Try.f65 _ 33 [(0, .slice A n c), (1, .int .u32 r), (2, .int .u32 top), (3, .int .u32 by_)] Try.func65 rfl rfl (by kernel_rfl) rfl ?_
 refine VC_seq ?_
 refine VC_region ?_
 have hzs1 := hS.size
 refine VL_box (d := 5) (t := 97) (c := #[.int .u32 r]) (by kernel_rfl) (by kernel_rfl) ?_
 intro b1 w1 hn1
 replace hS := Step.trans hS (hn1.step No)
 replace hA := hA.no (hn1.step No)
 have ho1 := hn1.own
 have hzhn1 := hn1.size
 have hqhn1 := hn1.eqb
 have hzs2 := hS.size
 have hzl1 := ho1.lt
 refine VL_box (d := 6) (t := 97) (c := #[.int .u32 top]) (by kernel_rfl) (by kernel_rfl) ?_
 intro b2 w2 hn2
 replace hS := Step.trans hS (hn2.step No)
 replace hA := hA.no (hn2.step No)
 replace ho1 := ho1.no (hn2.step No)
 have ho2 := hn2.own
 have hzhn2 := hn2.size
 have hqhn2 := hn2.eqb
 have hzs3 := hS.size
 have hzl2 := ho1.lt
 have hzl3 := ho2.lt
 refine VL_box (d := 7) (t := 97) (c := #[.int .u32 by_]) (by kernel_rfl) (by kernel_rfl) ?_
 intro b3 w3 hn3
 replace hS := Step.trans hS (hn3.step No)
 replace hA := hA.no (hn3.step No)
 replace ho1 := ho1.no (hn3.step No)
 replace ho2 := ho2.no (hn3.step No)
 have ho3 := hn3.own
 have hzhn3 := hn3.size
 have hqhn3 := hn3.eqb
 refine VL_pure 4 [0, 5, 6, 7, 8] [(0, .slice A n c), (5, .pointer (some ⟨b1, 0, none⟩)), (6, .pointer (some ⟨b2, 0, none⟩)), (7, .pointer (some ⟨b3, 0, none⟩)), (8, .int .u32 0)] (by kernel_rfl) rfl ?_
 refine VL_end (by kernel_rfl) ?_
 refine VQ_next ?_
 refine VC_scope ?_
 refine VC_seq ?_
 refine VC_region ?_
 refine VL_load (d := 12) (t := 97) (a := ⟨b2, 0, none⟩) (v := .int .u32 top) (by kernel_rfl) (by kernel_rfl) (Loads.own1 ho2 (by kernel_rfl) (by rfl)) ?_
 refine VL_pure 3 [0, 5, 6, 7, 8, 14] [(0, .slice A n c), (5, .pointer (some ⟨b1, 0, none⟩)), (6, .pointer (some ⟨b2, 0, none⟩)), (7, .pointer (some ⟨b3, 0, none⟩)), (8, .int .u32 0), (14, .int .u32 (IntKind.wrap .u32 ((IntKind.wrap .u32 (top * 2 ^ 1)) - 1)))] (by kernel_rfl) rfl ?_
 have hzs4 := hS.size
 have hzl4 := ho1.lt
 have hzl5 := ho2.lt
 have hzl6 := ho3.lt
 refine VL_box (d := 9) (t := 97) (c := #[.int .u32 0]) (by kernel_rfl) (by kernel_rfl) ?_
 intro b4 w4 hn4
 replace hS := Step.trans hS (hn4.step No)
 replace hA := hA.no (hn4.step No)
 replace ho1 := ho1.no (hn4.step No)
 replace ho2 := ho2.no (hn4.step No)
 replace ho3 := ho3.no (hn4.step No)
 have ho4 := hn4.own
 have hzhn4 := hn4.size
 have hqhn4 := hn4.eqb
 refine VL_store (b := b4) (o := 0) (vs := [.int .u32 (IntKind.wrap .u32 ((IntKind.wrap .u32 (top * 2 ^ 1)) - 1))]) (by kernel_rfl) (by kernel_rfl) ho4 (Nat.le_of_ble_eq_true (by kernel_rfl)) ?_
 intro w5 hw1
 replace hS := Step.transNew hS hw1.step (fun _ _ _ => by omega)
 replace hA := hA.step hw1.step (fun k hk (hF : k = b4) => by omega)
 replace ho1 := ho1.step hw1.step (show ¬ b1 = b4 by omega)
 replace ho2 := ho2.step hw1.step (show ¬ b2 = b4 by omega)
 replace ho3 := ho3.step hw1.step (show ¬ b3 = b4 by omega)
 have ho5 : Own w5 b4 #[.int .u32 (IntKind.wrap .u32 ((IntKind.wrap .u32 (top * 2 ^ 1)) - 1))] 97 := Own.cast hw1.own (by kernel_rfl)
 have hzhw1 := hw1.same
 refine VL_end (by kernel_rfl) ?_
 refine VQ_next ?_
 refine VC_seq ?_
 refine VC_label ?_
 refine VQ_next ?_
 refine VC_seq ?_
 refine VC_seq ?_
 refine VC_region ?_
 refine VL_pure 1 [5, 6, 7, 8, 9, 15] [(5, .pointer (some ⟨b1, 0, none⟩)), (6, .pointer (some ⟨b2, 0, none⟩)), (7, .pointer (some ⟨b3, 0, none⟩)), (8, .int .u32 0), (9, .pointer (some ⟨b4, 0, none⟩)), (15, .slice A n c)] (by kernel_rfl) rfl ?_
 have hzs5 := hS.size
 have hzl7 := ho1.lt
 have hzl8 := ho2.lt
 have hzl9 := ho3.lt
 have hzl10 := ho5.lt
 refine VL_call (d := 16) (f := 68) (args := #[.slice A n c]) (by kernel_rfl) (by kernel_rfl) (by kernel_rfl) Try.call68 (bits_any A n c _) ?_
 rintro _ w6 ⟨bb1, rfl, hfbb1, hbb1, hc1⟩
 replace hS := Step.trans hS hc1
 replace hA := hA.no hc1
 replace ho1 := ho1.no hc1
 replace ho2 := ho2.no hc1
 replace ho3 := ho3.no hc1
 replace ho5 := ho5.no hc1
 have hzbb1 := hbb1.lt
 refine VL_end (by kernel_rfl) ?_
 refine VQ_next ?_
 refine VC_block ?_
 have hzs6 := hS.size
 have hzl11 := ho1.lt
 have hzl12 := ho2.lt
 have hzl13 := ho3.lt
 have hzl14 := ho5.lt
 have hzl15 := hbb1.lt
 refine VC_range (gf := 69) (lb := #[.pointer (some ⟨bb1, 0, none⟩)]) (xs := (bitsV bs)) (by kernel_rfl) Try.call69 (bits_iter bb1 n c Bd A bs hn hlen) (fun a ha => by obtain ⟨x, _, rfl⟩ := List.mem_map.1 ha; rfl) (by kernel_rfl) (fun _ i => i = b1) (fun M i hi => by have : i = b1 := hi; omega) (fun _ k W => (Step No w W) ∧ (Sl W Bd A (iL .u8 bs)) ∧ (Own W b1 #[.int .u32 (((bitsL bs).take k).foldl (stepB top by_) r)] 97) ∧ (Own W b2 #[.int .u32 top] 97) ∧ (Own W b3 #[.int .u32 by_] 97) ∧ (Own W b4 #[.int .u32 (IntKind.wrap .u32 ((IntKind.wrap .u32 (top * 2 ^ 1)) - 1))] 97) ∧ (Own W bb1 #[.slice A n c] 25)) (fun _ _ => False) (by rintro M k W W' ⟨hS, hA, ho1, ho2, ho3, ho5, hbb1⟩ hs; exact ⟨Step.transNew hS hs (fun i hi hG => by have : i = (w6.heap.size + 1) := hG; omega), hA.step hs (fun k hk (hF : k = (w6.heap.size + 1)) => by omega), ho1.step hs (show ¬ b1 = (w6.heap.size + 1) by omega), ho2.step hs (show ¬ b2 = (w6.heap.size + 1) by omega), ho3.step hs (show ¬ b3 = (w6.heap.size + 1) by omega), ho5.step hs (show ¬ b4 = (w6.heap.size + 1) by omega), hbb1.step hs (show ¬ bb1 = (w6.heap.size + 1) by omega)⟩) (fun _ _ _ h _ => h.elim) (by rintro M k W W' ⟨hS, hA, ho1, ho2, ho3, ho5, hbb1⟩ hs; exact ⟨Step.trans hS hs, hA.no hs, ho1.no hs, ho2.no hs, ho3.no hs, ho5.no hs, hbb1.no hs⟩) (fun _ _ _ h _ => h.elim) (by rintro M k W ⟨hS, hA, ho1, ho2, ho3, ho5, hbb1⟩; exact ⟨hbb1, hA⟩) (fun W hs => ⟨hbb1.no hs, hA.no hs⟩) (fun M W hM hM2 hs _ => ⟨Step.trans hS hs, hA.no hs, ho1.no hs, ho2.no hs, ho3.no hs, ho5.no hs, hbb1.no hs⟩) ?_ ?_ ?_
 ·intro M k w7 args hM hM2 hx hJ0 hsz
  obtain ⟨hS, hA, ho1, ho2, ho3, ho5, hbb1⟩ := hJ0
  obtain ⟨bit, hbit, rfl⟩ : ∃ bit, (bitsL bs)[k]? = some bit ∧ args = #[.bool bit] := by
   rw [bitsV, List.getElem?_map] at hx
   obtain ⟨x, h1, h2⟩ := Option.map_eq_some_iff.1 hx
   exact ⟨x, h1, h2.symm⟩
  refine VC_keep [5, 6, 7, 9, 17] [(5, .pointer (some ⟨b1, 0, none⟩)), (6, .pointer (some ⟨b2, 0, none⟩)), (7, .pointer (some ⟨b3, 0, none⟩)), (9, .pointer (some ⟨b4, 0, none⟩)), (17, .bool bit)] (by kernel_rfl) ?_
  refine VC_region ?_
  refine VL_pure 1 [5, 6, 7, 9, 17, 10] [(5, .pointer (some ⟨b1, 0, none⟩)), (6, .pointer (some ⟨b2, 0, none⟩)), (7, .pointer (some ⟨b3, 0, none⟩)), (9, .pointer (some ⟨b4, 0, none⟩)), (17, .bool bit), (10, .bool bit)] (by kernel_rfl) rfl ?_
  refine VL_end (by kernel_rfl) ?_
  refine VQ_begin (Step.refl _ _) ?_
  intro w8 hb1 hzhb1
  have hzs7 := hS.size
  have hzl16 := ho1.lt
  have hzl17 := ho2.lt
  have hzl18 := ho3.lt
  have hzl19 := ho5.lt
  have hzl20 := hbb1.lt
  replace hS := Step.transNew hS hb1 (fun _ _ _ => by omega)
  replace hA := hA.step hb1 (fun k hk (hF : k = (w6.heap.size + 1)) => by omega)
  replace ho1 := ho1.step hb1 (show ¬ b1 = (w6.heap.size + 1) by omega)
  replace ho2 := ho2.step hb1 (show ¬ b2 = (w6.heap.size + 1) by omega)
  replace ho3 := ho3.step hb1 (show ¬ b3 = (w6.heap.size + 1) by omega)
  replace ho5 := ho5.step hb1 (show ¬ b4 = (w6.heap.size + 1) by omega)
  replace hbb1 := hbb1.step hb1 (show ¬ bb1 = (w6.heap.size + 1) by omega)
  have hR1 : Step ((fun _ i => i = b1) M) w8 w8 := Step.refl _ _
  refine VC_block ?_
  refine VC_seq ?_
  refine VC_region ?_
  refine VL_load (d := 18) (t := 97) (a := ⟨b1, 0, none⟩) (v := .int .u32 (((bitsL bs).take k).foldl (stepB top by_) r)) (by kernel_rfl) (by kernel_rfl) (Loads.own1 ho1 (by kernel_rfl) (by rfl)) ?_
  refine VL_load (d := 19) (t := 97) (a := ⟨b2, 0, none⟩) (v := .int .u32 top) (by kernel_rfl) (by kernel_rfl) (Loads.own1 ho2 (by kernel_rfl) (by rfl)) ?_
  refine VL_pure 5 [5, 7, 9, 10, 11] [(5, .pointer (some ⟨b1, 0, none⟩)), (7, .pointer (some ⟨b3, 0, none⟩)), (9, .pointer (some ⟨b4, 0, none⟩)), (10, .bool bit), (11, .bool ((bAnd .u32 (((bitsL bs).take k).foldl (stepB top by_) r) top) != 0))] (by kernel_rfl) rfl ?_
  refine VL_end (by kernel_rfl) ?_
  refine VQ_next ?_
  refine VC_seq ?_
  refine VC_region ?_
  refine VL_load (d := 22) (t := 97) (a := ⟨b1, 0, none⟩) (v := .int .u32 (((bitsL bs).take k).foldl (stepB top by_) r)) (by kernel_rfl) (by kernel_rfl) (Loads.own1 ho1 (by kernel_rfl) (by rfl)) ?_
  refine VL_pure 2 [5, 7, 9, 10, 11, 23] [(5, .pointer (some ⟨b1, 0, none⟩)), (7, .pointer (some ⟨b3, 0, none⟩)), (9, .pointer (some ⟨b4, 0, none⟩)), (10, .bool bit), (11, .bool ((bAnd .u32 (((bitsL bs).take k).foldl (stepB top by_) r) top) != 0)), (23, .int .u32 (IntKind.wrap .u32 ((((bitsL bs).take k).foldl (stepB top by_) r) * 2 ^ 1)))] (by kernel_rfl) rfl ?_
  refine VL_load (d := 24) (t := 97) (a := ⟨b4, 0, none⟩) (v := .int .u32 (IntKind.wrap .u32 ((IntKind.wrap .u32 (top * 2 ^ 1)) - 1))) (by kernel_rfl) (by kernel_rfl) (Loads.own1 ho5 (by kernel_rfl) (by rfl)) ?_
  refine VL_pure 4 [5, 7, 10, 11, 25] [(5, .pointer (some ⟨b1, 0, none⟩)), (7, .pointer (some ⟨b3, 0, none⟩)), (10, .bool bit), (11, .bool ((bAnd .u32 (((bitsL bs).take k).foldl (stepB top by_) r) top) != 0)), (25, .int .u32 (bAnd .u32 (IntKind.wrap .u32 ((((bitsL bs).take k).foldl (stepB top by_) r) * 2 ^ 1)) (IntKind.wrap .u32 ((IntKind.wrap .u32 (top * 2 ^ 1)) - 1))))] (by kernel_rfl) rfl ?_
  refine VL_store (b := b1) (o := 0) (vs := [.int .u32 (bAnd .u32 (IntKind.wrap .u32 ((((bitsL bs).take k).foldl (stepB top by_) r) * 2 ^ 1)) (IntKind.wrap .u32 ((IntKind.wrap .u32 (top * 2 ^ 1)) - 1)))]) (by kernel_rfl) (by kernel_rfl) ho1 (Nat.le_of_ble_eq_true (by kernel_rfl)) ?_
  intro w9 hw2
  replace hS := Step.transNew hS hw2.step (fun _ _ _ => by omega)
  replace hA := hA.step hw2.step (fun k hk (hF : k = b1) => by omega)
  replace ho2 := ho2.step hw2.step (show ¬ b2 = b1 by omega)
  replace ho3 := ho3.step hw2.step (show ¬ b3 = b1 by omega)
  replace ho5 := ho5.step hw2.step (show ¬ b4 = b1 by omega)
  replace hbb1 := hbb1.step hw2.step (show ¬ bb1 = b1 by omega)
  replace hR1 := Step.trans hR1 (Step.mono hw2.step (by intro i hi; first | exact hi | (have hi9 : i = b1 := hi; (first | show _ ∨ _ | show _ = _); omega)))
  have ho6 : Own w9 b1 #[.int .u32 (bAnd .u32 (IntKind.wrap .u32 ((((bitsL bs).take k).foldl (stepB top by_) r) * 2 ^ 1)) (IntKind.wrap .u32 ((IntKind.wrap .u32 (top * 2 ^ 1)) - 1)))] 97 := Own.cast hw2.own (by kernel_rfl)
  have hzhw2 := hw2.same
  refine VL_end (by kernel_rfl) ?_
  refine VQ_next ?_
  refine VC_seq ?_
  refine VC_seq ?_
  refine VC_region ?_
  refine VL_pure 3 [5, 7, 28] [(5, .pointer (some ⟨b1, 0, none⟩)), (7, .pointer (some ⟨b3, 0, none⟩)), (28, .bool (((bAnd .u32 (((bitsL bs).take k).foldl (stepB top by_) r) top) != 0) == bit))] (by kernel_rfl) rfl ?_
  refine VL_end (by kernel_rfl) ?_
  refine VQ_next ?_
  refine VC_cond (((bAnd .u32 (((bitsL bs).take k).foldl (stepB top by_) r) top) != 0) == bit) (by kernel_rfl) (fun h1 => ?_) (fun h1 => ?_)
  ·try simp only [Bool.and_eq_true, Bool.or_eq_true, decide_eq_true_eq, Bool.not_eq_true', decide_eq_false_iff_not, Bool.and_eq_false_iff, Bool.or_eq_false_iff, beq_iff_eq, bne_iff_ne, beq_eq_false_iff_ne, bne_eq_false_iff_eq, Bool.not_eq_eq_eq_not, Bool.not_true, Bool.not_false] at h1
   refine VC_exit ?_
   refine VQ_then_exit ?_
   refine VQ_block_hit ?_
   exact VQ_round_end hR1 ⟨hS, hA, (Own.cast ho6 (by rw [foldl_take_succ _ _ _ _ _ hbit, stepB]; rw [if_pos (beq_iff_eq.2 h1)]; rfl)), ho2, ho3, ho5, hbb1⟩
  ·try simp only [Bool.and_eq_true, Bool.or_eq_true, decide_eq_true_eq, Bool.not_eq_true', decide_eq_false_iff_not, Bool.and_eq_false_iff, Bool.or_eq_false_iff, beq_iff_eq, bne_iff_ne, beq_eq_false_iff_ne, bne_eq_false_iff_eq, Bool.not_eq_eq_eq_not, Bool.not_true, Bool.not_false] at h1
   refine VC_skip ?_
   refine VQ_next ?_
   refine VC_region ?_
   refine VL_load (d := 29) (t := 97) (a := ⟨b1, 0, none⟩) (v := .int .u32 (bAnd .u32 (IntKind.wrap .u32 ((((bitsL bs).take k).foldl (stepB top by_) r) * 2 ^ 1)) (IntKind.wrap .u32 ((IntKind.wrap .u32 (top * 2 ^ 1)) - 1)))) (by kernel_rfl) (by kernel_rfl) (Loads.own1 ho6 (by kernel_rfl) (by rfl)) ?_
   refine VL_load (d := 30) (t := 97) (a := ⟨b3, 0, none⟩) (v := .int .u32 by_) (by kernel_rfl) (by kernel_rfl) (Loads.own1 ho3 (by kernel_rfl) (by rfl)) ?_
   refine VL_pure 3 [5, 31] [(5, .pointer (some ⟨b1, 0, none⟩)), (31, .int .u32 (bXor .u32 (bAnd .u32 (IntKind.wrap .u32 ((((bitsL bs).take k).foldl (stepB top by_) r) * 2 ^ 1)) (IntKind.wrap .u32 ((IntKind.wrap .u32 (top * 2 ^ 1)) - 1))) by_))] (by kernel_rfl) rfl ?_
   refine VL_store (b := b1) (o := 0) (vs := [.int .u32 (bXor .u32 (bAnd .u32 (IntKind.wrap .u32 ((((bitsL bs).take k).foldl (stepB top by_) r) * 2 ^ 1)) (IntKind.wrap .u32 ((IntKind.wrap .u32 (top * 2 ^ 1)) - 1))) by_)]) (by kernel_rfl) (by kernel_rfl) ho6 (Nat.le_of_ble_eq_true (by kernel_rfl)) ?_
   intro w10 hw3
   replace hS := Step.transNew hS hw3.step (fun _ _ _ => by omega)
   replace hA := hA.step hw3.step (fun k hk (hF : k = b1) => by omega)
   replace ho2 := ho2.step hw3.step (show ¬ b2 = b1 by omega)
   replace ho3 := ho3.step hw3.step (show ¬ b3 = b1 by omega)
   replace ho5 := ho5.step hw3.step (show ¬ b4 = b1 by omega)
   replace hbb1 := hbb1.step hw3.step (show ¬ bb1 = b1 by omega)
   replace hR1 := Step.trans hR1 (Step.mono hw3.step (by intro i hi; first | exact hi | (have hi9 : i = b1 := hi; (first | show _ ∨ _ | show _ = _); omega)))
   have ho7 : Own w10 b1 #[.int .u32 (bXor .u32 (bAnd .u32 (IntKind.wrap .u32 ((((bitsL bs).take k).foldl (stepB top by_) r) * 2 ^ 1)) (IntKind.wrap .u32 ((IntKind.wrap .u32 (top * 2 ^ 1)) - 1))) by_)] 97 := Own.cast hw3.own (by kernel_rfl)
   have hzhw3 := hw3.same
   refine VL_end (by kernel_rfl) ?_
   refine VQ_block_normal ?_
   exact VQ_round_end hR1 ⟨hS, hA, (Own.cast ho7 (by rw [foldl_take_succ _ _ _ _ _ hbit, stepB]; rw [if_neg (fun e => h1 (beq_iff_eq.1 e))]; rfl)), ho2, ho3, ho5, hbb1⟩
 ·intro M w11 hM hzM hJ0 hD
  obtain ⟨hS, hA, ho1, ho2, ho3, ho5, hbb1⟩ := hJ0
  replace ho1 : Own w11 b1 #[.int .u32 (restB bs r top by_)] 97 := Own.cast ho1 (by rw [bitsV_len, ← bitsL_len, List.take_length]; rfl)
  have hmk1 := hD
  refine VQ_block_normal ?_
  refine VQ_next ?_
  refine VC_seq ?_
  refine VC_region ?_
  refine VL_load (d := 32) (t := 97) (a := ⟨b1, 0, none⟩) (v := .int .u32 (restB bs r top by_)) (by kernel_rfl) (by kernel_rfl) (Loads.own1 ho1 (by kernel_rfl) (by rfl)) ?_
  refine VL_pure 2 [8] [(8, .int .u32 (restB bs r top by_))] (by kernel_rfl) rfl ?_
  refine VL_end (by kernel_rfl) ?_
  refine VQ_next ?_
  refine VC_ret ?_
  refine VQ_scope_ret ?_
  have hzs8 := hS.size
  have hzl21 := ho1.lt
  have hzl22 := ho2.lt
  have hzl23 := ho3.lt
  have hzl24 := ho5.lt
  have hzl25 := hbb1.lt
  have hzl26 := hmk1.lt
  refine VQ_retM1 (.int .u32 (restB bs r top by_)) [w6.heap.size] (.inr rfl) rfl rfl ⟨hmk1, (by simp), trivial⟩ ?_
  intro w12 hq1
  replace hq1 : Step (Just w6.heap.size) w11 w12 := Step.mono hq1 (fun i hi => by simpa using hi)
  replace hS := Step.transNew hS hq1 (fun _ _ _ => by omega)
  replace hA := hA.step hq1 (fun k hk (hF : k = w6.heap.size) => by omega)
  replace ho1 := ho1.step hq1 (show ¬ b1 = w6.heap.size by omega)
  replace ho2 := ho2.step hq1 (show ¬ b2 = w6.heap.size by omega)
  replace ho3 := ho3.step hq1 (show ¬ b3 = w6.heap.size by omega)
  replace ho5 := ho5.step hq1 (show ¬ b4 = w6.heap.size by omega)
  replace hbb1 := hbb1.step hq1 (show ¬ bb1 = w6.heap.size by omega)
  exact ⟨rfl, hS⟩
 ·intro e W _ hF _; exact hF.elim

end Go.Proofs.Ytejpcmjokamdcaa
end

section
/- Layer 4: a payload's check. -/
set_option linter.unusedVariables false
set_option linter.unusedSimpArgs false
namespace Go.Proofs.Ytejpcmjokamdcaa
open Go.Vc
def carryF (bs : List Int) : Nat → Int
  | 0 => 0
  | k + 1 => IntKind.wrap .u8 (bs.getD k 0 * 2 ^ 6)
def shiftF (bs : List Int) : Nat → List Int
  | 0 => List.replicate 47 0
  | k + 1 => (shiftF bs k).set k (bOr .u8 (carryF bs k) ((bs.getD k 0).fdiv (2 ^ 2)))
theorem shiftF_len (bs : List Int) : ∀ k, (shiftF bs k).length = 47
  | 0 => rfl
  | k + 1 => by rw [shiftF, List.length_set, shiftF_len bs k]
def tenB (bs : List Int) : Int := IntKind.wrap .u16 (restB bs 0 512 563)
def sealL (bs : List Int) : List Int :=
  (bs.set 46 (bOr .u8 (bAndNot .u8 (bs.getD 46 0) 3) (IntKind.wrap .u8 ((tenB (shiftF bs 47)).fdiv (2 ^ 8))))).set 47 (IntKind.wrap .u8 (tenB (shiftF bs 47)))
theorem sealL_len (bs : List Int) : (sealL bs).length = bs.length := by simp [sealL]
end Go.Proofs.Ytejpcmjokamdcaa
end

section
/- Layer 4: both payload checks are one. -/
set_option linter.unusedVariables false
set_option linter.unusedSimpArgs false
namespace Go.Proofs.Ytejpcmjokamdcaa
open Go.Vc
theorem byte_nat {x : Int} (h : 0 ≤ x ∧ x < 256) : ∃ a : Fin 256, x = ((a.val : Nat) : Int) := ⟨⟨x.toNat, by omega⟩, by simp; omega⟩
theorem bits8_fin : ∀ a : Fin 256, bits8 ((a.val : Nat) : Int) = (List.range 8).map fun i => a.val.testBit (7 - i) := by decide +kernel
theorem rbits8_fin : ∀ a : Fin 256, rbits8 ((a.val : Nat) : Int) = (bits8 ((a.val : Nat) : Int)).map b2i := by decide +kernel
theorem rbitsL_eq {bs : List Int} (h : Bytes bs) : rbitsL bs = (bitsL bs).map b2i := by
  induction bs with
  | nil => rfl
  | cons x r ih =>
    obtain ⟨a, rfl⟩ := byte_nat (h x (by simp))
    have ih := ih fun y hy => h y (by simp [hy])
    unfold rbitsL bitsL at ih ⊢
    rw [List.flatMap_cons, List.flatMap_cons, List.map_append, ih, rbits8_fin]
theorem bOr_u8 (a b : Nat) (ha : a < 2 ^ 8) (hb : b < 2 ^ 8) : bOr .u8 (a : Int) (b : Int) = ((a ||| b : Nat) : Int) := by
  unfold bOr
  rw [BitVec.ofInt_natCast, BitVec.ofInt_natCast, BitVec.toNat_or, BitVec.toNat_ofNat, BitVec.toNat_ofNat]
  show IntKind.wrap .u8 (((a % 2 ^ 8 ||| b % 2 ^ 8 : Nat)) : Int) = _
  rw [Nat.mod_eq_of_lt ha, Nat.mod_eq_of_lt hb, wrap_u8, Nat.mod_eq_of_lt (Nat.or_lt_two_pow ha hb)]
/-- A byte shifted by two places, with two places of the one ahead. -/
def shB (p q : Int) : Int := bOr .u8 (IntKind.wrap .u8 (p * 2 ^ 6)) (q.fdiv (2 ^ 2))
theorem shB_nat (p q : Fin 256) : shB ((p.val : Nat) : Int) ((q.val : Nat) : Int) = (((p.val * 64 % 2 ^ 8 ||| q.val / 2 ^ 2 : Nat)) : Int) := by
  unfold shB
  rw [show ((p.val : Nat) : Int) * 2 ^ 6 = ((p.val * 64 : Nat) : Int) by omega, wrap_u8, fdiv_nat, bOr_u8 _ _ (Nat.mod_lt _ (by decide)) (by have := q.isLt; omega)]
theorem shB_bits (p q : Fin 256) : bits8 (shB ((p.val : Nat) : Int) ((q.val : Nat) : Int)) = (bits8 ((p.val : Nat) : Int)).drop 6 ++ (bits8 ((q.val : Nat) : Int)).take 6 := by
  rw [shB_nat]
  have hlt : p.val * 64 % 2 ^ 8 ||| q.val / 2 ^ 2 < 256 := Nat.or_lt_two_pow (Nat.mod_lt _ (by decide)) (by have := q.isLt; omega)
  rw [show ((p.val * 64 % 2 ^ 8 ||| q.val / 2 ^ 2 : Nat) : Int) = (((⟨p.val * 64 % 2 ^ 8 ||| q.val / 2 ^ 2, hlt⟩ : Fin 256).val : Nat) : Int) from rfl, bits8_fin, bits8_fin, bits8_fin]
  have hq : ∀ i, 8 ≤ i → q.val.testBit i = false := fun i hi => Nat.testBit_lt_two_pow (Nat.lt_of_lt_of_le q.isLt (Nat.pow_le_pow_right (by omega) hi : 2 ^ 8 ≤ 2 ^ i))
  have key : ∀ i, (p.val * 64 % 2 ^ 8 ||| q.val / 2 ^ 2).testBit i = ((decide (i < 8) && (decide (6 ≤ i) && p.val.testBit (i - 6))) || q.val.testBit (i + 2)) := by
    intro i
    rw [Nat.testBit_or, Nat.testBit_mod_two_pow, show p.val * 64 = p.val * 2 ^ 6 from rfl, Nat.testBit_mul_two_pow, Nat.testBit_div_two_pow]
  simp only [List.range, List.range.loop, List.map_cons, List.map_nil, key, List.drop_succ_cons, List.drop_zero, List.take_succ_cons, List.take_zero, List.cons_append, List.nil_append]
  simp [hq]
theorem shB_0 (q : Fin 256) : bits8 (shB 0 ((q.val : Nat) : Int)) = [false, false] ++ (bits8 ((q.val : Nat) : Int)).take 6 := by
  have := shB_bits ⟨0, by decide⟩ q
  exact this
theorem carry_sh {bs : List Int} (k : Nat) : bOr .u8 (carryF bs k) ((bs.getD k 0).fdiv (2 ^ 2)) = shB (if k = 0 then 0 else bs.getD (k - 1) 0) (bs.getD k 0) := by
  cases k with
  | zero => rfl
  | succ k => rfl
theorem shiftF_get {bs : List Int} : ∀ k, k ≤ 47 → ∀ j, j < k → (shiftF bs k).getD j 0 = shB (if j = 0 then 0 else bs.getD (j - 1) 0) (bs.getD j 0)
  | 0, _, j, hj => by omega
  | k + 1, hk, j, hj => by
    rw [shiftF, getD_set _ _ _ _ (by rw [shiftF_len]; omega)]
    by_cases h : j = k
    · subst h; rw [if_pos rfl, carry_sh]
    · rw [if_neg h]; exact shiftF_get k (by omega) j (by omega)
theorem shift_bits {bs : List Int} (hb : Bytes bs) (hn : bs.length = 48) : bitsL (shiftF bs 47) = [false, false] ++ (bitsL bs).take 374 := by
  have hl1 : (bitsL (shiftF bs 47)).length = 376 := by rw [bitsL_len, shiftF_len]
  have hl2 : (bitsL bs).length = 384 := by rw [bitsL_len, hn]
  apply List.ext_getElem?
  intro q
  by_cases hq : q < 376
  · obtain ⟨j, i, hi, hj, rfl⟩ : ∃ j i, i < 8 ∧ j < 47 ∧ q = 8 * j + i := ⟨q / 8, q % 8, Nat.mod_lt _ (by omega), by omega, by omega⟩
    have e := flat8_get bits8 bits8_len (shiftF bs 47) j i (by rw [shiftF_len]; exact hj) hi
    rw [show (bitsL (shiftF bs 47)) = (shiftF bs 47).flatMap bits8 from rfl, e, shiftF_get 47 (Nat.le_refl _) j hj]
    obtain ⟨y, hy⟩ := byte_nat (hb.get j)
    by_cases h0 : j = 0
    · subst h0
      rw [if_pos rfl, hy, shB_0, Nat.mul_zero, Nat.zero_add]
      by_cases h2 : i < 2
      · rw [List.getElem?_append_left (by simpa using h2), List.getElem?_append_left (by simpa using h2)]
      · rw [List.getElem?_append_right (by simp; omega), List.getElem?_append_right (by simp; omega), List.getElem?_take, List.getElem?_take]
        simp only [List.length_cons, List.length_nil]
        rw [if_pos (by omega), if_pos (by omega)]
        have := flat8_get bits8 bits8_len bs 0 (i - 2) (by omega) (by omega)
        rw [Nat.mul_zero, Nat.zero_add] at this
        rw [show (bitsL bs) = bs.flatMap bits8 from rfl, this, hy]
    · obtain ⟨x, hx⟩ := byte_nat (hb.get (j - 1))
      rw [if_neg h0, hx, hy, shB_bits, List.getElem?_append_right (show ([false, false] : List Bool).length ≤ 8 * j + i by simp; omega), List.getElem?_take]
      simp only [List.length_cons, List.length_nil]
      rw [if_pos (by omega)]
      have hd6 : ((bits8 ((x.val : Nat) : Int)).drop 6).length = 2 := rfl
      by_cases h2 : i < 2
      · rw [List.getElem?_append_left (by omega), List.getElem?_drop]
        have := flat8_get bits8 bits8_len bs (j - 1) (6 + i) (by omega) (by omega)
        rw [show (bitsL bs) = bs.flatMap bits8 from rfl, show 8 * j + i - (0 + 1 + 1) = 8 * (j - 1) + (6 + i) by omega, this, hx]
      · rw [List.getElem?_append_right (by omega), hd6, List.getElem?_take, if_pos (by omega)]
        have := flat8_get bits8 bits8_len bs j (i - 2) (by omega) (by omega)
        rw [show (bitsL bs) = bs.flatMap bits8 from rfl, show 8 * j + i - (0 + 1 + 1) = 8 * j + (i - 2) by omega, this, hy]
  · rw [List.getElem?_eq_none (by omega), List.getElem?_eq_none (by simp; omega)]

/-! ### The check -/
def crcN (bs : List Int) : Nat := ((bitsL bs).take 374).foldl (stepN 10 563) 0
theorem crcN_lt (bs : List Int) : crcN bs < 1024 := (fold_N (d := 10) (g := 563) (by decide) (by decide) (by decide) ((bitsL bs).take 374) 0 (by decide)).2
theorem tenB_crc {bs : List Int} (hb : Bytes bs) (hn : bs.length = 48) : tenB (shiftF bs 47) = ((crcN bs : Nat) : Int) := by
  unfold tenB restB
  rw [shift_bits hb hn, List.foldl_append]
  have h0 : [false, false].foldl (stepB 512 563) 0 = 0 := by decide +kernel
  rw [h0]
  have h1 := (fold_N (d := 10) (g := 563) (by decide) (by decide) (by decide) ((bitsL bs).take 374) 0 (by decide)).1
  have h2 := crcN_lt bs
  rw [show ((512 : Int)) = ((2 ^ (10 - 1) : Nat) : Int) from rfl, show ((563 : Int)) = ((563 : Nat) : Int) from rfl, show ((0 : Int)) = ((0 : Nat) : Int) from rfl, h1]
  show IntKind.wrap .u16 ((crcN bs : Nat) : Int) = _
  unfold IntKind.wrap
  simp only [IntKind.signed, IntKind.bits, Bool.false_and, Bool.false_eq_true, if_false]
  omega
theorem restF_crc {bs : List Int} (hb : Bytes bs) (hn : bs.length = 48) : restF 563 10 ((rbitsL bs).take 374) = ((crcN bs : Nat) : Int) := by
  have hl2 : (bitsL bs).length = 384 := by rw [bitsL_len, hn]
  have hl : ((bitsL bs).take 374).length = 374 := by simp [hl2]
  rw [rbitsL_eq hb, ← List.map_take]
  unfold restF
  rw [List.length_map]
  refine rest_reg (d := 10) (g := 563) (by decide) (by decide) (by decide) (r0 := 0) (by decide) ((bitsL bs).take 374) _ (by simp) fun m hm => ?_
  rw [Nat.zero_testBit, Bool.and_false, Bool.xor_false]
  generalize (bitsL bs).take 374 = l at *
  simp only [List.getD]
  by_cases h : m < l.length
  · rw [List.getElem?_append_left (by simpa using h), List.getElem?_map, List.getElem?_eq_getElem h]; rfl
  · rw [List.getElem?_append_right (by simpa using Nat.le_of_not_lt h), List.getElem?_eq_none (show l.length ≤ m by omega), List.getElem?_replicate, List.length_map]
    rw [if_pos (by omega)]; rfl
theorem last_fin : ∀ (a : Fin 256) (q : Fin 4), bOr .u8 (bAndNot .u8 ((a.val : Nat) : Int) 3) (IntKind.wrap .u8 ((q.val : Nat) : Int)) = IntKind.wrap .u8 (IntKind.wrap .u8 (IntKind.wrap .u8 (((a.val : Nat) : Int).tdiv 4) * 4) + IntKind.wrap .u8 (IntKind.wrap .u64 ((q.val : Nat) : Int))) := by decide +kernel
theorem seal_eq {bs : List Int} (hb : Bytes bs) (hn : bs.length = 48) : sealL bs = sealR bs := by
  unfold sealL sealR
  rw [tenB_crc hb hn, restF_crc hb hn]
  obtain ⟨a, ha⟩ := byte_nat (hb.get 46)
  have hc := crcN_lt bs
  have e1 : (((crcN bs : Nat) : Int).fdiv (2 ^ 8)) = ((((⟨crcN bs / 256, by omega⟩ : Fin 4)).val : Nat) : Int) := fdiv_nat _ _
  have e2 : (((crcN bs : Nat) : Int).tdiv 256) = ((((⟨crcN bs / 256, by omega⟩ : Fin 4)).val : Nat) : Int) := tdiv_nat _ 256
  rw [e1, e2, ha, last_fin]
  congr 1
  rw [show (((crcN bs : Nat) : Int).tmod 256) = ((crcN bs % 256 : Nat) : Int) from tmod_nat _ 256, wrap_u8, wrap_u8, Nat.mod_mod]
end Go.Proofs.Ytejpcmjokamdcaa
end

section
/- Layer 10 in plain Lean: frames as texts. -/
set_option linter.unusedVariables false
set_option linter.unusedSimpArgs false
namespace Go.Proofs.Ytejpcmjokamdcaa
open Go.Vc
theorem sumL_bytes (bs : List Int) : Bytes (sumL bs) := by
  intro x hx
  simp only [sumL, List.mem_cons, List.mem_nil_iff, or_false] at hx
  rcases hx with rfl | rfl | rfl | rfl <;> exact byte_wrap _
theorem str_eqL {xs ys : List Int} (hx : Bytes xs) (hy : Bytes ys) : ((strOf xs).toList == (strOf ys).toList) = (xs == ys) := by
  rw [Bool.eq_iff_iff, beq_iff_eq, beq_iff_eq]
  constructor
  · intro h
    refine strOf_inj hx hy ?_
    have : (strOf xs).data = (strOf ys).data := by
      have h2 := h
      rw [ByteArray.toList_eq, ByteArray.toList_eq] at h2
      exact Array.toList_inj.1 h2
    exact congrArg ByteArray.mk this
  · intro h; rw [h]
/-- What a frame's trailer tells: its text's length. -/
def tailF (bs : List Int) (n : Nat) : List Int := (bs.drop (n - 8)).take (n - (n - 8))
def lenF (bs : List Int) (n : Nat) : Nat := ((tailF bs n).getD 2 0 * 256 + (tailF bs n).getD 3 0).toNat
theorem lenF_eq {bs : List Int} {n : Nat} (hb : Bytes bs) : bOr .i64 (IntKind.wrap .i64 (IntKind.wrap .i64 ((tailF bs n).getD 2 0) * 2 ^ 8)) (IntKind.wrap .i64 ((tailF bs n).getD 3 0)) = ((lenF bs n : Nat) : Int) := by
  have h2 := ((hb.drop (n - 8)).take (n - (n - 8))).get 2
  have h3 := ((hb.drop (n - 8)).take (n - (n - 8))).get 3
  unfold lenF tailF
  obtain ⟨a, ha⟩ : ∃ a : Nat, (((bs.drop (n - 8)).take (n - (n - 8))).getD 2 0) = (a : Int) := ⟨_, (Int.toNat_of_nonneg h2.1).symm⟩
  obtain ⟨b, hb'⟩ : ∃ b : Nat, (((bs.drop (n - 8)).take (n - (n - 8))).getD 3 0) = (b : Int) := ⟨_, (Int.toNat_of_nonneg h3.1).symm⟩
  rw [ha] at h2
  rw [hb'] at h3
  rw [ha, hb']
  rw [wrap_i64 ((a : Nat) : Int) (by omega) (by omega), wrap_i64 ((b : Nat) : Int) (by omega) (by omega), show ((a : Nat) : Int) * 2 ^ 8 = ((a * 256 : Nat) : Int) by omega, wrap_i64 _ (by omega) (by omega), bOr_i64 _ _ (by omega) (by omega), or_byte a b (by omega)]
  rw [show ((a : Nat) : Int) * 256 + (b : Int) = ((a * 256 + b : Nat) : Int) by omega, Int.toNat_natCast]
theorem lenF_lt {bs : List Int} {n : Nat} (hb : Bytes bs) : lenF bs n < 65536 := by
  have h2 := ((hb.drop (n - 8)).take (n - (n - 8))).get 2
  have h3 := ((hb.drop (n - 8)).take (n - (n - 8))).get 3
  unfold lenF tailF
  omega
def midF (bs : List Int) (n : Nat) : List Int := (bs.drop (lenF bs n)).take (n - 8 - lenF bs n)
/-- Is a frame bad, and how? -/
def unE (bs : List Int) : Int :=
  let n := bs.length
  if n = 0 ∨ n % 48 ≠ 0 then 5 else if (bs.drop (n - 4)).take (n - (n - 4)) ≠ sumL (bs.take (n - 4)) then 4
  else if (tailF bs n).getD 1 0 ≠ 0 ∨ lenF bs n = 0 ∨ manyN (lenF bs n) * 48 ≠ n then 5
  else if (midF bs n).any (fun x => x != 0) = true then 5 else if 1000 < lenF bs n then 6 else 0
def unT (bs : List Int) : List Int := if unE bs = 0 then bs.take (lenF bs bs.length) else []
def unM (bs : List Int) : Int := if unE bs = 0 then (tailF bs bs.length).getD 0 0 else 0
theorem un_err {bs : List Int} {e : Int} (h : unE bs = e) (he : e ≠ 0) : unT bs = [] ∧ unM bs = 0 := by
  unfold unT unM
  rw [h, if_neg he, if_neg he]; exact ⟨rfl, rfl⟩
theorem un_5a {bs : List Int} (h : bs.length = 0 ∨ bs.length % 48 ≠ 0) : unE bs = 5 := by unfold unE; rw [if_pos h]
theorem un_4 {bs : List Int} {n : Nat} (hn : bs.length = n) (h0 : n ≠ 0) (h1 : n % 48 = 0) (h2 : (bs.drop (n - 4)).take (n - (n - 4)) ≠ sumL (bs.take (n - 4))) : unE bs = 4 := by
  subst hn; unfold unE; rw [if_neg (by omega), if_pos h2]
theorem un_5b {bs : List Int} {n : Nat} (hn : bs.length = n) (h0 : n ≠ 0) (h1 : n % 48 = 0) (h2 : (bs.drop (n - 4)).take (n - (n - 4)) = sumL (bs.take (n - 4))) (h3 : (tailF bs n).getD 1 0 ≠ 0 ∨ lenF bs n = 0 ∨ manyN (lenF bs n) * 48 ≠ n) : unE bs = 5 := by
  subst hn; unfold unE; rw [if_neg (by omega), if_neg (by simp [h2]), if_pos h3]
theorem un_5c {bs : List Int} {n : Nat} (hn : bs.length = n) (h0 : n ≠ 0) (h1 : n % 48 = 0) (h2 : (bs.drop (n - 4)).take (n - (n - 4)) = sumL (bs.take (n - 4))) (h3 : (tailF bs n).getD 1 0 = 0) (h4 : lenF bs n ≠ 0) (h5 : manyN (lenF bs n) * 48 = n) (h6 : (midF bs n).any (fun x => x != 0) = true) : unE bs = 5 := by
  subst hn; unfold unE; rw [if_neg (by omega), if_neg (by simp [h2]), if_neg (by rintro (h | h | h); exact h h3; exact h4 h; exact h h5), if_pos h6]
theorem un_6 {bs : List Int} {n : Nat} (hn : bs.length = n) (h0 : n ≠ 0) (h1 : n % 48 = 0) (h2 : (bs.drop (n - 4)).take (n - (n - 4)) = sumL (bs.take (n - 4))) (h3 : (tailF bs n).getD 1 0 = 0) (h4 : lenF bs n ≠ 0) (h5 : manyN (lenF bs n) * 48 = n) (h6 : (midF bs n).any (fun x => x != 0) = false) (h7 : 1000 < lenF bs n) : unE bs = 6 := by
  subst hn; unfold unE; rw [if_neg (by omega), if_neg (by simp [h2]), if_neg (by rintro (h | h | h); exact h h3; exact h4 h; exact h h5), if_neg (by rw [h6]; decide), if_pos h7]
theorem un_0 {bs : List Int} {n : Nat} (hn : bs.length = n) (h0 : n ≠ 0) (h1 : n % 48 = 0) (h2 : (bs.drop (n - 4)).take (n - (n - 4)) = sumL (bs.take (n - 4))) (h3 : (tailF bs n).getD 1 0 = 0) (h4 : lenF bs n ≠ 0) (h5 : manyN (lenF bs n) * 48 = n) (h6 : (midF bs n).any (fun x => x != 0) = false) (h7 : ¬ 1000 < lenF bs n) : unE bs = 0 ∧ unT bs = bs.take (lenF bs n) ∧ unM bs = (tailF bs n).getD 0 0 := by
  subst hn
  have : unE bs = 0 := by unfold unE; rw [if_neg (by omega), if_neg (by simp [h2]), if_neg (by rintro (h | h | h); exact h h3; exact h4 h; exact h h5), if_neg (by rw [h6]; decide), if_neg h7]
  exact ⟨this, by unfold unT; rw [if_pos this], by unfold unM; rw [if_pos this]⟩
end Go.Proofs.Ytejpcmjokamdcaa
end

section
/- Layer 1: Long, both sides. -/
set_option linter.unusedVariables false
set_option linter.unusedSimpArgs false
namespace Go.Proofs.Ytejpcmjokamdcaa
open Go.Vc Go.RowKit

set_option maxRecDepth 100000 in
set_option maxHeartbeats 4000000 in
theorem long_any (A : Option Addr) (n c Bd : Nat) (bs : List Int) (w : World) (hn : bs.length = n) (hA : Sl w Bd A (iL .u8 bs)) (hlen : n ≤ 10000) (hBd : Bd ≤ w.heap.size) :
  CV Try.prog 57 #[.slice A n c] w (fun x w1 => x = .int .u32 (longB bs) ∧ Step No w w1) := by
 have hS : Step No w w := Step.refl _ _
 refine CV_enter Try.f57 _ 6 [(0, .slice A n c)] Try.func57 rfl rfl (by kernel_rfl) rfl ?_
 refine VC_seq ?_
 refine VC_region ?_
 refine VL_pure 1 [0] [(0, .slice A n c)] (by kernel_rfl) rfl ?_
 refine VL_end (by kernel_rfl) ?_
 refine VQ_next ?_
 refine VC_seq ?_
 refine VC_region ?_
 refine VL_pure 1 [3] [(3, .slice A n c)] (by kernel_rfl) rfl ?_
 have hzs1 := hS.size
 refine VL_call (d := 4) (f := 65) (args := #[.slice A n c, .int .u32 4294967295, .int .u32 2147483648, .int .u32 79764919]) (by kernel_rfl) (by kernel_rfl) (by kernel_rfl) Try.call65 (rest_any A n c _ bs _ hn hA 4294967295 2147483648 79764919 (by omega) (by first | exact Nat.le_refl _ | omega)) ?_
 rintro _ w1 ⟨rfl, hc1⟩
 replace hS := Step.trans hS hc1
 replace hA := hA.no hc1
 refine VL_pure 4 [2] [(2, .int .u32 (bXor .u32 4294967295 (restB bs 4294967295 2147483648 79764919)))] (by kernel_rfl) rfl ?_
 refine VL_end (by kernel_rfl) ?_
 refine VQ_next ?_
 refine VC_ret ?_
 refine VQ_ret1 (.int .u32 (bXor .u32 4294967295 (restB bs 4294967295 2147483648 79764919))) (.inr rfl) rfl rfl ?_
 exact ⟨rfl, hS⟩

end Go.Proofs.Ytejpcmjokamdcaa
end

section
/- Layer 10: Many, sum, Pack. -/
set_option linter.unusedVariables false
set_option linter.unusedSimpArgs false
namespace Go.Proofs.Ytejpcmjokamdcaa
open Go.Vc Go.RowKit

theorem many_nat (n : Nat) (w : World) (h : n < 1099511627776) :
  CV Try.prog 38 #[.int .i64 ((n : Nat) : Int)] w (fun x w1 => x = .int .i64 ((manyN n : Nat) : Int) ∧ Step No w w1) := by
 have hS : Step No w w := Step.refl _ _
 refine CV_enter Try.f38 _ 10 [(0, .int .i64 ((n : Nat) : Int))] Try.func38 rfl rfl (by kernel_rfl) rfl ?_
 refine VC_seq ?_
 refine VC_region ?_
 refine VL_pure 1 [0] [(0, .int .i64 ((n : Nat) : Int))] (by kernel_rfl) rfl ?_
 refine VL_end (by kernel_rfl) ?_
 refine VQ_next ?_
 refine VC_seq ?_
 refine VC_seq ?_
 refine VC_region ?_
 refine VL_pure 2 [0, 4] [(0, .int .i64 ((n : Nat) : Int)), (4, .bool (decide (((n : Nat) : Int) < 1)))] (by kernel_rfl) rfl ?_
 refine VL_end (by kernel_rfl) ?_
 refine VQ_next ?_
 refine VC_dec (((n : Nat) : Int) < 1) (by kernel_rfl) (fun h1 => ?_) (fun h1 => ?_)
 ·refine VC_seq ?_
  refine VC_region ?_
  refine VL_pure 1 [2] [(2, .int .i64 0)] (by kernel_rfl) rfl ?_
  refine VL_end (by kernel_rfl) ?_
  refine VQ_next ?_
  refine VC_ret ?_
  refine VQ_then_ret ?_
  refine VQ_ret1 (.int .i64 0) (.inr rfl) rfl rfl ?_
  exact ⟨by unfold manyN; rw [if_pos (by omega)]; rfl, hS⟩
 ·refine VC_skip ?_
  refine VQ_next ?_
  refine VC_seq ?_
  refine VC_region ?_
  refine VL_pure 2 [6] [(6, .int .i64 (IntKind.wrap .i64 (((n : Nat) : Int) + 8)))] (by kernel_rfl) rfl ?_
  have he1 : IntKind.wrap .i64 (((n : Nat) : Int) + 8) = ((n + 8 : Nat) : Int) := (by rw [wrap_i64 _ (by omega) (by omega)]; omega)
  refine VL_eq [(6, .int .i64 ((n + 8 : Nat) : Int))] (by rw [he1]) ?_
  refine VL_pure 3 [7] [(7, .int .i64 (IntKind.wrap .i64 (((n + 8 : Nat) : Int) + 48)))] (by kernel_rfl) rfl ?_
  have he2 : IntKind.wrap .i64 (((n + 8 : Nat) : Int) + 48) = ((n + 8 + 48 : Nat) : Int) := (by rw [wrap_i64 _ (by omega) (by omega)]; omega)
  refine VL_eq [(7, .int .i64 ((n + 8 + 48 : Nat) : Int))] (by rw [he2]) ?_
  refine VL_pure 4 [8] [(8, .int .i64 (IntKind.wrap .i64 (((n + 8 + 48 : Nat) : Int) - 1)))] (by kernel_rfl) rfl ?_
  have he3 : IntKind.wrap .i64 (((n + 8 + 48 : Nat) : Int) - 1) = (((n + 8 + 48) - 1 : Nat) : Int) := (by rw [wrap_i64 _ (by omega) (by omega)]; omega)
  refine VL_eq [(8, .int .i64 (((n + 8 + 48) - 1 : Nat) : Int))] (by rw [he3]) ?_
  refine VL_pure 5 [9] [(9, .int .i64 (IntKind.wrap .i64 ((((n + 8 + 48) - 1 : Nat) : Int).tdiv 48)))] (by kernel_rfl) rfl ?_
  have he4 : IntKind.wrap .i64 ((((n + 8 + 48) - 1 : Nat) : Int).tdiv 48) = ((((n + 8 + 48) - 1) / 48 : Nat) : Int) := (by rw [show (((n + 8 + 48) - 1 : Nat) : Int).tdiv 48 = ((((n + 8 + 48) - 1) / 48 : Nat) : Int) from tdiv_nat ((n + 8 + 48) - 1) 48, wrap_i64 _ (by omega) (by omega)])
  refine VL_eq [(9, .int .i64 ((((n + 8 + 48) - 1) / 48 : Nat) : Int))] (by rw [he4]) ?_
  refine VL_pure 6 [2] [(2, .int .i64 ((((n + 8 + 48) - 1) / 48 : Nat) : Int))] (by kernel_rfl) rfl ?_
  refine VL_end (by kernel_rfl) ?_
  refine VQ_next ?_
  refine VC_ret ?_
  refine VQ_ret1 (.int .i64 ((((n + 8 + 48) - 1) / 48 : Nat) : Int)) (.inr rfl) rfl rfl ?_
  exact ⟨by unfold manyN; rw [if_neg (by omega)]; exact congrArg (fun n : Nat => Value.int .i64 (n : Int)) (by omega), hS⟩

theorem many_neg (n : Int) (w : World) (h : n < 1) :
  CV Try.prog 38 #[.int .i64 n] w (fun x w1 => x = .int .i64 0 ∧ Step No w w1) := by
 have hS : Step No w w := Step.refl _ _
 refine CV_enter Try.f38 _ 10 [(0, .int .i64 n)] Try.func38 rfl rfl (by kernel_rfl) rfl ?_
 refine VC_seq ?_
 refine VC_region ?_
 refine VL_pure 1 [0] [(0, .int .i64 n)] (by kernel_rfl) rfl ?_
 refine VL_end (by kernel_rfl) ?_
 refine VQ_next ?_
 refine VC_seq ?_
 refine VC_seq ?_
 refine VC_region ?_
 refine VL_pure 2 [0, 4] [(0, .int .i64 n), (4, .bool (decide (n < 1)))] (by kernel_rfl) rfl ?_
 refine VL_end (by kernel_rfl) ?_
 refine VQ_next ?_
 refine VC_dec (n < 1) (by kernel_rfl) (fun h1 => ?_) (fun h1 => ?_)
 ·refine VC_seq ?_
  refine VC_region ?_
  refine VL_pure 1 [2] [(2, .int .i64 0)] (by kernel_rfl) rfl ?_
  refine VL_end (by kernel_rfl) ?_
  refine VQ_next ?_
  refine VC_ret ?_
  refine VQ_then_ret ?_
  refine VQ_ret1 (.int .i64 0) (.inr rfl) rfl rfl ?_
  exact ⟨rfl, hS⟩
 ·exfalso; omega

set_option maxRecDepth 100000 in
set_option maxHeartbeats 4000000 in
theorem sum_any (A : Option Addr) (n c Bd : Nat) (bs : List Int) (w : World) (hn : bs.length = n) (hA : Sl w Bd A (iL .u8 bs)) (hlen : n ≤ 10000) (hBd : Bd ≤ w.heap.size) :
  CV Try.prog 39 #[.slice A n c] w (fun x w1 => ∃ g, x = .slice (some ⟨g, 0, none⟩) 4 4 ∧ w.heap.size ≤ g ∧ Own w1 g (iA .u8 (sumL bs)) 5 ∧ Step No w w1) := by
 have hS : Step No w w := Step.refl _ _
 refine CV_enter Try.f39 _ 18 [(0, .slice A n c)] Try.func39 rfl rfl (by kernel_rfl) rfl ?_
 refine VC_seq ?_
 refine VC_region ?_
 refine VL_pure 1 [0] [(0, .slice A n c)] (by kernel_rfl) rfl ?_
 refine VL_end (by kernel_rfl) ?_
 refine VQ_next ?_
 refine VC_seq ?_
 refine VC_region ?_
 refine VL_pure 1 [4] [(4, .slice A n c)] (by kernel_rfl) rfl ?_
 have hzs1 := hS.size
 refine VL_call (d := 5) (f := 57) (args := #[.slice A n c]) (by kernel_rfl) (by kernel_rfl) (by kernel_rfl) Try.call57 (long_any A n c _ bs _ hn hA (by omega) (by first | exact Nat.le_refl _ | omega)) ?_
 rintro _ w1 ⟨rfl, hc1⟩
 replace hS := Step.trans hS hc1
 replace hA := hA.no hc1
 refine VL_pure 3 [3] [(3, .int .u32 (longB bs))] (by kernel_rfl) rfl ?_
 refine VL_end (by kernel_rfl) ?_
 refine VQ_next ?_
 refine VC_seq ?_
 refine VC_region ?_
 refine VL_pure 11 [8, 11, 14, 16] [(8, .int .u8 (IntKind.wrap .u8 ((longB bs).fdiv (2 ^ 24)))), (11, .int .u8 (IntKind.wrap .u8 ((longB bs).fdiv (2 ^ 16)))), (14, .int .u8 (IntKind.wrap .u8 ((longB bs).fdiv (2 ^ 8)))), (16, .int .u8 (IntKind.wrap .u8 (longB bs)))] (by kernel_rfl) rfl ?_
 have hzs2 := hS.size
 refine VL_bs (d := 17) (e := 5) (c := #[.int .u8 (IntKind.wrap .u8 ((longB bs).fdiv (2 ^ 24))), .int .u8 (IntKind.wrap .u8 ((longB bs).fdiv (2 ^ 16))), .int .u8 (IntKind.wrap .u8 ((longB bs).fdiv (2 ^ 8))), .int .u8 (IntKind.wrap .u8 (longB bs))]) (len := 4) (by kernel_rfl) (by kernel_rfl) ?_
 intro b1 w2 hn1
 replace hS := Step.trans hS (hn1.step No)
 replace hA := hA.no (hn1.step No)
 have ho1 := hn1.own
 have hzhn1 := hn1.size
 have hqhn1 := hn1.eqb
 refine VL_pure 13 [2] [(2, .slice (some ⟨b1, 0, none⟩) 4 4)] (by kernel_rfl) rfl ?_
 refine VL_end (by kernel_rfl) ?_
 refine VQ_next ?_
 refine VC_ret ?_
 refine VQ_ret1 (.slice (some ⟨b1, 0, none⟩) 4 4) (.inr rfl) rfl rfl ?_
 exact ⟨b1, rfl, by omega, ho1, hS⟩

set_option maxRecDepth 100000 in
set_option maxHeartbeats 4000000 in
theorem pack_0 (A : Option Addr) (n c Bd : Nat) (bs : List Int) (w : World) (hn : bs.length = n) (hA : Sl w Bd A (iL .u8 bs)) (m : Int) (hBd : Bd ≤ w.heap.size) (h0 : n = 0) :
  CV Try.prog 21 #[.slice A n c, .int .u8 m] w (fun x w1 => x = .tuple #[.slice none 0 0, .int .i64 1] ∧ Step No w w1) := by
 have hS : Step No w w := Step.refl _ _
 refine CV_enter Try.f21 _ 37 [(0, .slice A n c), (1, .int .u8 m)] Try.func21 rfl rfl (by kernel_rfl) rfl ?_
 refine VC_seq ?_
 refine VC_region ?_
 refine VL_pure 2 [0, 1] [(0, .slice A n c), (1, .int .u8 m)] (by kernel_rfl) rfl ?_
 refine VL_end (by kernel_rfl) ?_
 refine VQ_next ?_
 refine VC_seq ?_
 refine VC_region ?_
 refine VL_pure 3 [0, 1, 6] [(0, .slice A n c), (1, .int .u8 m), (6, .int .i64 ((n : Nat) : Int))] (by kernel_rfl) rfl ?_
 refine VL_end (by kernel_rfl) ?_
 refine VQ_next ?_
 refine VC_seq ?_
 refine VC_block ?_
 refine VC_seq ?_
 refine VC_region ?_
 refine VL_pure 3 [0, 1, 6, 10] [(0, .slice A n c), (1, .int .u8 m), (6, .int .i64 ((n : Nat) : Int)), (10, .bool (((n : Nat) : Int) == 0))] (by kernel_rfl) rfl ?_
 refine VL_end (by kernel_rfl) ?_
 refine VQ_next ?_
 refine VC_is (b := ((n : Nat) : Int) == 0) true (by kernel_rfl) (by simp [h0]) ?_
 refine VC_ite_true ?_
 refine VC_seq ?_
 refine VC_region ?_
 refine VL_pure 2 [4, 5] [(4, .slice none 0 0), (5, .int .i64 1)] (by kernel_rfl) rfl ?_
 refine VL_end (by kernel_rfl) ?_
 refine VQ_next ?_
 refine VC_ret ?_
 refine VQ_block_ret ?_
 refine VQ_then_ret ?_
 refine VQ_ret2 (.slice none 0 0) (.int .i64 1) (.inr rfl) rfl rfl rfl ?_
 exact ⟨rfl, hS⟩

set_option maxRecDepth 100000 in
set_option maxHeartbeats 4000000 in
theorem pack_long (A : Option Addr) (n c Bd : Nat) (bs : List Int) (w : World) (hn : bs.length = n) (hA : Sl w Bd A (iL .u8 bs)) (m : Int) (hBd : Bd ≤ w.heap.size) (h0 : 1000 < n) :
  CV Try.prog 21 #[.slice A n c, .int .u8 m] w (fun x w1 => x = .tuple #[.slice none 0 0, .int .i64 6] ∧ Step No w w1) := by
 have hS : Step No w w := Step.refl _ _
 refine CV_enter Try.f21 _ 37 [(0, .slice A n c), (1, .int .u8 m)] Try.func21 rfl rfl (by kernel_rfl) rfl ?_
 refine VC_seq ?_
 refine VC_region ?_
 refine VL_pure 2 [0, 1] [(0, .slice A n c), (1, .int .u8 m)] (by kernel_rfl) rfl ?_
 refine VL_end (by kernel_rfl) ?_
 refine VQ_next ?_
 refine VC_seq ?_
 refine VC_region ?_
 refine VL_pure 3 [0, 1, 6] [(0, .slice A n c), (1, .int .u8 m), (6, .int .i64 ((n : Nat) : Int))] (by kernel_rfl) rfl ?_
 refine VL_end (by kernel_rfl) ?_
 refine VQ_next ?_
 refine VC_seq ?_
 refine VC_block ?_
 refine VC_seq ?_
 refine VC_region ?_
 refine VL_pure 3 [0, 1, 6, 10] [(0, .slice A n c), (1, .int .u8 m), (6, .int .i64 ((n : Nat) : Int)), (10, .bool (((n : Nat) : Int) == 0))] (by kernel_rfl) rfl ?_
 refine VL_end (by kernel_rfl) ?_
 refine VQ_next ?_
 refine VC_is (b := ((n : Nat) : Int) == 0) false (by kernel_rfl) (by simp; omega) ?_
 refine VC_ite_false ?_
 refine VC_seq ?_
 refine VC_region ?_
 refine VL_pure 3 [0, 1, 6, 13] [(0, .slice A n c), (1, .int .u8 m), (6, .int .i64 ((n : Nat) : Int)), (13, .bool (decide (((n : Nat) : Int) > 1000)))] (by kernel_rfl) rfl ?_
 refine VL_end (by kernel_rfl) ?_
 refine VQ_next ?_
 refine VC_is (b := decide (((n : Nat) : Int) > 1000)) true (by kernel_rfl) (by simp; omega) ?_
 refine VC_ite_true ?_
 refine VC_seq ?_
 refine VC_region ?_
 refine VL_pure 2 [4, 5] [(4, .slice none 0 0), (5, .int .i64 6)] (by kernel_rfl) rfl ?_
 refine VL_end (by kernel_rfl) ?_
 refine VQ_next ?_
 refine VC_ret ?_
 refine VQ_block_ret ?_
 refine VQ_then_ret ?_
 refine VQ_ret2 (.slice none 0 0) (.int .i64 6) (.inr rfl) rfl rfl rfl ?_
 exact ⟨rfl, hS⟩

set_option maxRecDepth 100000 in
set_option maxHeartbeats 4000000 in
theorem pack_yes (A : Option Addr) (n c Bd : Nat) (bs : List Int) (w : World) (hn : bs.length = n) (hA : Sl w Bd A (iL .u8 bs)) (m : Int) (hBd : Bd ≤ w.heap.size) (h0 : 0 < n) (h1 : n ≤ 1000) :
  CV Try.prog 21 #[.slice A n c, .int .u8 m] w (fun x w1 => ∃ g' c', x = .tuple #[.slice (some ⟨g', 0, none⟩) (48 * manyN n) c', .int .i64 0] ∧ w.heap.size ≤ g' ∧ Rw w1 w.heap.size 5 (some ⟨g', 0, none⟩) (48 * manyN n) c' (iL .u8 (frameF bs m)) ∧ Step No w w1) := by
 have hS : Step No w w := Step.refl _ _
 refine CV_enter Try.f21 _ 37 [(0, .slice A n c), (1, .int .u8 m)] Try.func21 rfl rfl (by kernel_rfl) rfl ?_
 refine VC_seq ?_
 refine VC_region ?_
 refine VL_pure 2 [0, 1] [(0, .slice A n c), (1, .int .u8 m)] (by kernel_rfl) rfl ?_
 refine VL_end (by kernel_rfl) ?_
 refine VQ_next ?_
 refine VC_seq ?_
 refine VC_region ?_
 refine VL_pure 3 [0, 1, 6] [(0, .slice A n c), (1, .int .u8 m), (6, .int .i64 ((n : Nat) : Int))] (by kernel_rfl) rfl ?_
 refine VL_end (by kernel_rfl) ?_
 refine VQ_next ?_
 refine VC_seq ?_
 refine VC_block ?_
 refine VC_seq ?_
 refine VC_region ?_
 refine VL_pure 3 [0, 1, 6, 10] [(0, .slice A n c), (1, .int .u8 m), (6, .int .i64 ((n : Nat) : Int)), (10, .bool (((n : Nat) : Int) == 0))] (by kernel_rfl) rfl ?_
 refine VL_end (by kernel_rfl) ?_
 refine VQ_next ?_
 refine VC_is (b := ((n : Nat) : Int) == 0) false (by kernel_rfl) (by simp; omega) ?_
 refine VC_ite_false ?_
 refine VC_seq ?_
 refine VC_region ?_
 refine VL_pure 3 [0, 1, 6, 13] [(0, .slice A n c), (1, .int .u8 m), (6, .int .i64 ((n : Nat) : Int)), (13, .bool (decide (((n : Nat) : Int) > 1000)))] (by kernel_rfl) rfl ?_
 refine VL_end (by kernel_rfl) ?_
 refine VQ_next ?_
 refine VC_is (b := decide (((n : Nat) : Int) > 1000)) false (by kernel_rfl) (by simp; omega) ?_
 refine VC_ite_false ?_
 refine VC_skip ?_
 refine VQ_block_normal ?_
 refine VQ_next ?_
 refine VC_seq ?_
 refine VC_region ?_
 refine VL_pure 1 [0, 1, 6, 16] [(0, .slice A n c), (1, .int .u8 m), (6, .int .i64 ((n : Nat) : Int)), (16, .int .i64 ((n : Nat) : Int))] (by kernel_rfl) rfl ?_
 have hzs1 := hS.size
 refine VL_call (d := 17) (f := 38) (args := #[.int .i64 ((n : Nat) : Int)]) (by kernel_rfl) (by kernel_rfl) (by kernel_rfl) Try.call38 (many_nat n _ (by omega)) ?_
 rintro _ w1 ⟨rfl, hc1⟩
 replace hS := Step.trans hS hc1
 replace hA := hA.no hc1
 have hmnq1 := many_le n
 refine VL_pure 3 [0, 1, 6, 18] [(0, .slice A n c), (1, .int .u8 m), (6, .int .i64 ((n : Nat) : Int)), (18, .int .i64 (IntKind.wrap .i64 (48 * ((manyN n : Nat) : Int))))] (by kernel_rfl) rfl ?_
 have he1 : IntKind.wrap .i64 (48 * ((manyN n : Nat) : Int)) = ((48 * (manyN n) : Nat) : Int) := (by rw [wrap_i64 _ (by omega) (by omega)]; omega)
 refine VL_eq [(0, .slice A n c), (1, .int .u8 m), (6, .int .i64 ((n : Nat) : Int)), (18, .int .i64 ((48 * (manyN n) : Nat) : Int))] (by rw [he1]) ?_
 refine VL_pure 4 [0, 1, 6, 19] [(0, .slice A n c), (1, .int .u8 m), (6, .int .i64 ((n : Nat) : Int)), (19, .int .i64 (IntKind.wrap .i64 (((48 * (manyN n) : Nat) : Int) - 8)))] (by kernel_rfl) rfl ?_
 have he2 : IntKind.wrap .i64 (((48 * (manyN n) : Nat) : Int) - 8) = (((48 * (manyN n)) - 8 : Nat) : Int) := (by rw [wrap_i64 _ (by omega) (by omega)]; omega)
 refine VL_eq [(0, .slice A n c), (1, .int .u8 m), (6, .int .i64 ((n : Nat) : Int)), (19, .int .i64 (((48 * (manyN n)) - 8 : Nat) : Int))] (by rw [he2]) ?_
 have hzs2 := hS.size
 refine VL_make (t := 25) (a := (((48 * (manyN n)) - 8 : Nat) : Int)) (b := (((48 * (manyN n)) - 8 : Nat) : Int)) (e := 5) (d := 20) (k := .u8) (bytes := 1) (by kernel_rfl) (by kernel_rfl) (by kernel_rfl) (by kernel_rfl) ((48 * (manyN n)) - 8) rfl rfl (by omega) (by omega) ?_
 intro g1 w2 hn1
 replace hS := Step.trans hS (hn1.step No)
 replace hA := hA.no (hn1.step No)
 have hzhn1 := hn1.size
 have hqhn1 := hn1.eqb
 have hr1 := Rw.made hn1.own (by simp only [maxLen]; omega)
 have hbase1 : g1 ≤ w2.heap.size := by omega
 have hglg1 : g1 < w2.heap.size := by omega
 refine VL_pure 6 [0, 1, 6, 7] [(0, .slice A n c), (1, .int .u8 m), (6, .int .i64 ((n : Nat) : Int)), (7, .slice (some ⟨g1, 0, none⟩) ((48 * (manyN n)) - 8) ((48 * (manyN n)) - 8))] (by kernel_rfl) rfl ?_
 refine VL_end (by kernel_rfl) ?_
 refine VQ_next ?_
 refine VC_seq ?_
 have hmnP := (many_le n).2 h0
 refine VC_region ?_
 refine VL_pure 2 [1, 6, 7, 21, 22] [(1, .int .u8 m), (6, .int .i64 ((n : Nat) : Int)), (7, .slice (some ⟨g1, 0, none⟩) ((48 * (manyN n)) - 8) ((48 * (manyN n)) - 8)), (21, .slice (some ⟨g1, 0, none⟩) ((48 * (manyN n)) - 8) ((48 * (manyN n)) - 8)), (22, .slice A n c)] (by kernel_rfl) rfl ?_
 refine VL_copyR (d := 23) (b := g1) (o := 0) (dl := ((48 * (manyN n)) - 8)) (A2 := A) (sl := n) (k := .u8) (bs := (List.replicate ((48 * (manyN n)) - 8) 0)) (vs := bs) (by kernel_rfl) (by kernel_rfl) hn (by omega) hA hr1 (by omega) ?_
 intro w3 hr2 hw1 hzhw1
 replace hS := Step.transNew hS hw1 (fun _ _ _ => by omega)
 replace hA := hA.step hw1 (fun k hk (hF : k = g1) => by omega)
 replace hbase1 := Nat.le_trans hbase1 (hw1).size
 replace hglg1 := Nat.lt_of_lt_of_le hglg1 (hw1).size
 refine VL_end (by kernel_rfl) ?_
 refine VQ_next ?_
 refine VC_seq ?_
 refine VC_region ?_
 refine VL_pure 7 [24, 25, 28, 30] [(24, .slice (some ⟨g1, 0, none⟩) ((48 * (manyN n)) - 8) ((48 * (manyN n)) - 8)), (25, .int .u8 m), (28, .int .u8 (IntKind.wrap .u8 (((n : Nat) : Int).fdiv (2 ^ 8)))), (30, .int .u8 (IntKind.wrap .u8 ((n : Nat) : Int)))] (by kernel_rfl) rfl ?_
 have hzs3 := hS.size
 have hzk1 := hbase1
 have hzk2 := hglg1
 refine VL_bs (d := 31) (e := 5) (c := #[.int .u8 m, .int .u8 0, .int .u8 (IntKind.wrap .u8 (((n : Nat) : Int).fdiv (2 ^ 8))), .int .u8 (IntKind.wrap .u8 ((n : Nat) : Int))]) (len := 4) (by kernel_rfl) (by kernel_rfl) ?_
 intro b1 w4 hn2
 replace hS := Step.trans hS (hn2.step No)
 replace hA := hA.no (hn2.step No)
 replace hbase1 := Nat.le_trans hbase1 (hn2.step No).size
 replace hglg1 := Nat.lt_of_lt_of_le hglg1 (hn2.step No).size
 replace hr2 := hr2.no (hn2.step No)
 have ho1 := hn2.own
 have hzhn2 := hn2.size
 have hqhn2 := hn2.eqb
 have hzs4 := hS.size
 have hzk3 := hbase1
 have hzk4 := hglg1
 have hzl1 := ho1.lt
 refine VL_appendS (d := 32) (e := 5) (A := (some ⟨g1, 0, none⟩)) (m := ((48 * (manyN n)) - 8)) (c := ((48 * (manyN n)) - 8)) (A2 := (some ⟨b1, 0, none⟩)) (m2 := 4) (c2 := 4) (bytes := 1) (by kernel_rfl) (by kernel_rfl) (by kernel_rfl) g1 w4.heap.size (iL .u8 (putL (List.replicate ((48 * (manyN n)) - 8) 0) 0 bs)) (iL .u8 ([m, 0, IntKind.wrap .u8 (((n : Nat) : Int).fdiv (2 ^ 8)), IntKind.wrap .u8 ((n : Nat) : Int)])) hr2 (by rw [iL_length]; first | done | exact rfl) (Sl.mono (Own.sl ho1 ho1.lt) (by first | exact Nat.le_refl _ | omega)) iL_one (((48 * (manyN n)) - 8) + 4) (by omega) (by simp only [maxLen]; omega) (by omega) (by omega) ?_
 intro A1 c1 w5 hr3 hg1
 replace hr3 : Rw w5 g1 5 A1 (((48 * (manyN n)) - 8) + 4) c1 (iL .u8 ((putL (List.replicate ((48 * (manyN n)) - 8) 0) 0 bs) ++ ([m, 0, IntKind.wrap .u8 (((n : Nat) : Int).fdiv (2 ^ 8)), IntKind.wrap .u8 ((n : Nat) : Int)]))) := Rw.cast hr3 rfl (by simp only [iL, List.map_append, List.map_cons, List.map_nil, List.append_assoc, List.cons_append, List.nil_append, List.append_nil])
 have hzhg1 := hg1.size
 replace hS := Step.transNew hS hg1 (fun i hi hG => by (try simp only at hG); omega)
 replace hA := hA.step hg1 (fun k hk hG => by (try simp only at hG); omega)
 replace hbase1 := Nat.le_trans hbase1 (hg1).size
 replace hglg1 := Nat.lt_of_lt_of_le hglg1 (hg1).size
 refine VL_pure 10 [7] [(7, .slice A1 (((48 * (manyN n)) - 8) + 4) c1)] (by kernel_rfl) rfl ?_
 refine VL_end (by kernel_rfl) ?_
 refine VQ_next ?_
 refine VC_seq ?_
 refine VC_region ?_
 refine VL_pure 2 [33, 34] [(33, .slice A1 (((48 * (manyN n)) - 8) + 4) c1), (34, .slice A1 (((48 * (manyN n)) - 8) + 4) c1)] (by kernel_rfl) rfl ?_
 have hzs5 := hS.size
 refine VL_call (d := 35) (f := 39) (args := #[.slice A1 (((48 * (manyN n)) - 8) + 4) c1]) (by kernel_rfl) (by kernel_rfl) (by kernel_rfl) Try.call39 (sum_any A1 (((48 * (manyN n)) - 8) + 4) c1 _ ((putL (List.replicate ((48 * (manyN n)) - 8) 0) 0 bs) ++ ([m, 0, IntKind.wrap .u8 (((n : Nat) : Int).fdiv (2 ^ 8)), IntKind.wrap .u8 ((n : Nat) : Int)])) _ (Rw.lenI hr3) (Rw.slI hr3) (by omega) (by first | exact Nat.le_refl _ | omega)) ?_
 rintro _ w6 ⟨sg1, rfl, hggsg1, ho2, hc2⟩
 replace hS := Step.trans hS hc2
 replace hA := hA.no hc2
 replace hbase1 := Nat.le_trans hbase1 (hc2).size
 replace hglg1 := Nat.lt_of_lt_of_le hglg1 (hc2).size
 replace hr3 := hr3.no hc2
 have hzgsg1 := ho2.lt
 have hzs6 := hS.size
 have hzk5 := hbase1
 have hzk6 := hglg1
 have hzl2 := ho2.lt
 refine VL_appendS (d := 36) (e := 5) (A := A1) (m := (((48 * (manyN n)) - 8) + 4)) (c := c1) (A2 := (some ⟨sg1, 0, none⟩)) (m2 := 4) (c2 := 4) (bytes := 1) (by kernel_rfl) (by kernel_rfl) (by kernel_rfl) g1 w6.heap.size (iL .u8 ((putL (List.replicate ((48 * (manyN n)) - 8) 0) 0 bs) ++ ([m, 0, IntKind.wrap .u8 (((n : Nat) : Int).fdiv (2 ^ 8)), IntKind.wrap .u8 ((n : Nat) : Int)]))) (iL .u8 ([IntKind.wrap .u8 ((longB ((putL (List.replicate ((48 * (manyN n)) - 8) 0) 0 bs) ++ ([m, 0, IntKind.wrap .u8 (((n : Nat) : Int).fdiv (2 ^ 8)), IntKind.wrap .u8 ((n : Nat) : Int)]))).fdiv (2 ^ 24)), IntKind.wrap .u8 ((longB ((putL (List.replicate ((48 * (manyN n)) - 8) 0) 0 bs) ++ ([m, 0, IntKind.wrap .u8 (((n : Nat) : Int).fdiv (2 ^ 8)), IntKind.wrap .u8 ((n : Nat) : Int)]))).fdiv (2 ^ 16)), IntKind.wrap .u8 ((longB ((putL (List.replicate ((48 * (manyN n)) - 8) 0) 0 bs) ++ ([m, 0, IntKind.wrap .u8 (((n : Nat) : Int).fdiv (2 ^ 8)), IntKind.wrap .u8 ((n : Nat) : Int)]))).fdiv (2 ^ 8)), IntKind.wrap .u8 (longB ((putL (List.replicate ((48 * (manyN n)) - 8) 0) 0 bs) ++ ([m, 0, IntKind.wrap .u8 (((n : Nat) : Int).fdiv (2 ^ 8)), IntKind.wrap .u8 ((n : Nat) : Int)])))])) hr3 (by rw [iL_length]; first | done | exact rfl) (Sl.mono (Own.sl ho2 ho2.lt) (by first | exact Nat.le_refl _ | omega)) iL_one ((((48 * (manyN n)) - 8) + 4) + 4) (by omega) (by simp only [maxLen]; omega) (by omega) (by omega) ?_
 intro A2 c2 w7 hr4 hg2
 replace hr4 : Rw w7 g1 5 A2 ((((48 * (manyN n)) - 8) + 4) + 4) c2 (iL .u8 (((putL (List.replicate ((48 * (manyN n)) - 8) 0) 0 bs) ++ ([m, 0, IntKind.wrap .u8 (((n : Nat) : Int).fdiv (2 ^ 8)), IntKind.wrap .u8 ((n : Nat) : Int)])) ++ ([IntKind.wrap .u8 ((longB ((putL (List.replicate ((48 * (manyN n)) - 8) 0) 0 bs) ++ ([m, 0, IntKind.wrap .u8 (((n : Nat) : Int).fdiv (2 ^ 8)), IntKind.wrap .u8 ((n : Nat) : Int)]))).fdiv (2 ^ 24)), IntKind.wrap .u8 ((longB ((putL (List.replicate ((48 * (manyN n)) - 8) 0) 0 bs) ++ ([m, 0, IntKind.wrap .u8 (((n : Nat) : Int).fdiv (2 ^ 8)), IntKind.wrap .u8 ((n : Nat) : Int)]))).fdiv (2 ^ 16)), IntKind.wrap .u8 ((longB ((putL (List.replicate ((48 * (manyN n)) - 8) 0) 0 bs) ++ ([m, 0, IntKind.wrap .u8 (((n : Nat) : Int).fdiv (2 ^ 8)), IntKind.wrap .u8 ((n : Nat) : Int)]))).fdiv (2 ^ 8)), IntKind.wrap .u8 (longB ((putL (List.replicate ((48 * (manyN n)) - 8) 0) 0 bs) ++ ([m, 0, IntKind.wrap .u8 (((n : Nat) : Int).fdiv (2 ^ 8)), IntKind.wrap .u8 ((n : Nat) : Int)])))]))) := Rw.cast hr4 rfl (by simp only [iL, List.map_append, List.map_cons, List.map_nil, List.append_assoc, List.cons_append, List.nil_append, List.append_nil])
 have hzhg2 := hg2.size
 replace hS := Step.transNew hS hg2 (fun i hi hG => by (try simp only at hG); omega)
 replace hA := hA.step hg2 (fun k hk hG => by (try simp only at hG); omega)
 replace hbase1 := Nat.le_trans hbase1 (hg2).size
 replace hglg1 := Nat.lt_of_lt_of_le hglg1 (hg2).size
 refine VL_pure 6 [4, 5] [(4, .slice A2 ((((48 * (manyN n)) - 8) + 4) + 4) c2), (5, .int .i64 0)] (by kernel_rfl) rfl ?_
 refine VL_end (by kernel_rfl) ?_
 refine VQ_next ?_
 refine VC_ret ?_
 refine VQ_ret2 (.slice A2 ((((48 * (manyN n)) - 8) + 4) + 4) c2) (.int .i64 0) (.inr rfl) rfl rfl rfl ?_
 have hmn := (many_le n).2 (by omega)
 obtain ⟨g9, cur9, rfl, hb9, -⟩ := hr4.open (by omega)
 refine ⟨g9, c2, by rw [show (((48 * (manyN n)) - 8) + 4) + 4 = 48 * manyN n by omega], by omega, Rw.low (Rw.cast hr4 (by omega) ?_) (by omega), hS⟩
 subst hn
 rw [putL_rep]; simp only [frameF, headF, padF, sumL, lenB, List.append_assoc, List.cons_append, List.nil_append]

end Go.Proofs.Ytejpcmjokamdcaa
end

section
/- Layer 10: Unpack. -/
set_option linter.unusedVariables false
set_option linter.unusedSimpArgs false
namespace Go.Proofs.Ytejpcmjokamdcaa
open Go.Vc Go.RowKit

theorem equal_any (ba oa na ca bb ob nb cb : Nat) (fa fb : List Int) (w : World) (ha : fa.length = na) (hb : fb.length = nb) (ca_ : ∀ j, j < na → w.cell? ⟨ba, oa + j, none⟩ = (fa.map (Value.int .u8))[j]?) (cb_ : ∀ j, j < nb → w.cell? ⟨bb, ob + j, none⟩ = (fb.map (Value.int .u8))[j]?) :
  CV Try.prog 40 #[.slice (some ⟨ba, oa, none⟩) na ca, .slice (some ⟨bb, ob, none⟩) nb cb] w (fun x w1 => x = .bool ((strOf fa).toList == (strOf fb).toList) ∧ Step No w w1) := by
 have hS : Step No w w := Step.refl _ _
 refine CV_enter Try.f40 _ 10 [(0, .slice (some ⟨ba, oa, none⟩) na ca), (1, .slice (some ⟨bb, ob, none⟩) nb cb)] Try.func40 rfl rfl (by kernel_rfl) rfl ?_
 refine VC_seq ?_
 refine VC_region ?_
 refine VL_pure 1 [0, 1] [(0, .slice (some ⟨ba, oa, none⟩) na ca), (1, .slice (some ⟨bb, ob, none⟩) nb cb)] (by kernel_rfl) rfl ?_
 refine VL_end (by kernel_rfl) ?_
 refine VQ_next ?_
 refine VC_seq ?_
 refine VC_region ?_
 refine VL_pure 1 [1, 5] [(1, .slice (some ⟨bb, ob, none⟩) nb cb), (5, .slice (some ⟨ba, oa, none⟩) na ca)] (by kernel_rfl) rfl ?_
 refine VL_str (d := 6) (b := ba) (o := oa) (len := na) (by kernel_rfl) (by kernel_rfl) fa ha ca_ ?_
 refine VL_pure 3 [6, 7] [(6, .string (strOf fa)), (7, .slice (some ⟨bb, ob, none⟩) nb cb)] (by kernel_rfl) rfl ?_
 refine VL_str (d := 8) (b := bb) (o := ob) (len := nb) (by kernel_rfl) (by kernel_rfl) fb hb cb_ ?_
 refine VL_pure 6 [4] [(4, .bool (ByteArray.toList (strOf fa) == ByteArray.toList (strOf fb)))] (by kernel_rfl) rfl ?_
 refine VL_end (by kernel_rfl) ?_
 refine VQ_next ?_
 refine VC_ret ?_
 refine VQ_ret1 (.bool (ByteArray.toList (strOf fa) == ByteArray.toList (strOf fb))) (.inr rfl) rfl rfl ?_
 exact ⟨rfl, hS⟩

theorem sl_cells {w : World} {B b o n : Nat} {xs : List Int} (h : Sl w B (some ⟨b, o, none⟩) (iL .u8 xs)) (hn : xs.length = n) : ∀ j, j < n → w.cell? ⟨b, o + j, none⟩ = (xs.map (Value.int .u8))[j]? := by
  intro j hj
  have := h.get j _ (iL_get j (by omega))
  rw [this]
  exact (iL_get (k := .u8) j (by omega)).symm
theorem equal2_any (ba oa na ca Ba bb ob nb cb Bb : Nat) (xs ys : List Int) (w : World) (hx : xs.length = na) (hA : Sl w Ba (some ⟨ba, oa, none⟩) (iL .u8 xs)) (hy : ys.length = nb) (hB : Sl w Bb (some ⟨bb, ob, none⟩) (iL .u8 ys)) (bx : Bytes xs) (by_ : Bytes ys) :
    CV Try.prog 40 #[.slice (some ⟨ba, oa, none⟩) na ca, .slice (some ⟨bb, ob, none⟩) nb cb] w (fun x w1 => x = .bool (xs == ys) ∧ Step No w w1) := by
  refine (equal_any ba oa na ca bb ob nb cb xs ys w hx hy (sl_cells hA hx) (sl_cells hB hy)).mono ?_
  rintro x w1 ⟨rfl, h⟩
  exact ⟨by rw [str_eqL bx by_], h⟩
set_option maxRecDepth 100000 in
set_option maxHeartbeats 4000000 in
theorem clone_any (b o n c Bd : Nat) (bs : List Int) (w : World) (hn : bs.length = n) (hA : Sl w Bd (some ⟨b, o, none⟩) (iL .u8 bs)) (hBd : Bd ≤ w.heap.size) (hb : b < Bd) (hlen : n ≤ 1000000) :
  CV Try.prog 43 #[.slice (some ⟨b, o, none⟩) n c] w (fun x w1 => ∃ A' c', x = .slice A' n c' ∧ Rw w1 w.heap.size 5 A' n c' (iL .u8 bs) ∧ Step No w w1) := by
 have hS : Step No w w := Step.refl _ _
 refine CV_enter Try.f43 _ 8 [(0, .slice (some ⟨b, o, none⟩) n c)] Try.func43 rfl rfl (by kernel_rfl) rfl ?_
 refine VC_seq ?_
 refine VC_region ?_
 refine VL_pure 1 [0] [(0, .slice (some ⟨b, o, none⟩) n c)] (by kernel_rfl) rfl ?_
 refine VL_end (by kernel_rfl) ?_
 refine VQ_next ?_
 refine VC_seq ?_
 refine VC_seq ?_
 refine VC_region ?_
 refine VL_pure 2 [0, 4] [(0, .slice (some ⟨b, o, none⟩) n c), (4, .bool false)] (by kernel_rfl) rfl ?_
 refine VL_end (by kernel_rfl) ?_
 refine VQ_next ?_
 refine VC_false (by kernel_rfl) ?_
 refine VC_skip ?_
 refine VQ_next ?_
 refine VC_seq ?_
 refine VC_region ?_
 have hzs1 := hS.size
 refine VL_bs (d := 5) (e := 5) (c := #[]) (len := 0) (by kernel_rfl) (by kernel_rfl) ?_
 intro b1 w1 hn1
 replace hS := Step.trans hS (hn1.step No)
 replace hA := hA.no (hn1.step No)
 have ho1 := hn1.own
 have hzhn1 := hn1.size
 have hqhn1 := hn1.eqb
 refine VL_pure 2 [5, 6] [(5, .slice (some ⟨b1, 0, none⟩) 0 0), (6, .slice (some ⟨b, o, none⟩) n c)] (by kernel_rfl) rfl ?_
 have hzs2 := hS.size
 have hzl1 := ho1.lt
 have hbase1 := Nat.le_of_lt ho1.lt
 refine VL_appendS (d := 7) (e := 5) (A := (some ⟨b1, 0, none⟩)) (m := 0) (c := 0) (A2 := (some ⟨b, o, none⟩)) (m2 := n) (c2 := c) (bytes := 1) (by kernel_rfl) (by kernel_rfl) (by kernel_rfl) b1 w1.heap.size (iL .u8 ([])) (iL .u8 bs) (Rw.of_new ho1 (Nat.le_refl _) (Nat.le_of_ble_eq_true (by kernel_rfl))) (by rw [iL_length]; first | done | exact hn) (Sl.mono hA (by first | exact Nat.le_refl _ | omega)) iL_one n (by omega) (by simp only [maxLen]; omega) (by omega) (by omega) ?_
 intro A1 c1 w2 hr1 hg1
 replace hr1 : Rw w2 b1 5 A1 n c1 (iL .u8 bs) := Rw.cast hr1 rfl (by simp only [iL, List.map_append, List.map_cons, List.map_nil, List.append_assoc, List.cons_append, List.nil_append, List.append_nil])
 have hzhg1 := hg1.size
 replace hS := Step.transNew hS hg1 (fun i hi hG => by (try simp only at hG); omega)
 replace hA := hA.keepB hg1 (by (try simp only); omega)
 replace hbase1 := Nat.le_trans hbase1 (hg1).size
 refine VL_pure 4 [2] [(2, .slice A1 n c1)] (by kernel_rfl) rfl ?_
 refine VL_end (by kernel_rfl) ?_
 refine VQ_next ?_
 refine VC_ret ?_
 refine VQ_ret1 (.slice A1 n c1) (.inr rfl) rfl rfl ?_
 exact ⟨_, _, rfl, Rw.low hr1 (by omega), hS⟩

theorem nz_any (x : Int) (w : World) :
  CV Try.prog 42 #[.int .u8 x] w (fun v w1 => v = .bool (x != 0) ∧ Step No w w1) := by
 have hS : Step No w w := Step.refl _ _
 refine CV_enter Try.f42 _ 5 [(0, .int .u8 x)] Try.func42 rfl rfl (by kernel_rfl) rfl ?_
 refine VC_seq ?_
 refine VC_region ?_
 refine VL_pure 1 [0] [(0, .int .u8 x)] (by kernel_rfl) rfl ?_
 refine VL_end (by kernel_rfl) ?_
 refine VQ_next ?_
 refine VC_seq ?_
 refine VC_region ?_
 refine VL_pure 3 [2] [(2, .bool (x != 0))] (by kernel_rfl) rfl ?_
 refine VL_end (by kernel_rfl) ?_
 refine VQ_next ?_
 refine VC_ret ?_
 refine VQ_ret1 (.bool (x != 0)) (.inr rfl) rfl rfl ?_
 exact ⟨rfl, hS⟩

set_option maxRecDepth 100000 in
set_option maxHeartbeats 4000000 in
theorem ixf_any (A : Option Addr) (n c Bd : Nat) (bs : List Int) (w : World) (hn : bs.length = n) (hA : Sl w Bd A (iL .u8 bs)) (hBd : Bd ≤ w.heap.size) (hlen : n ≤ 1000000) :
  CV Try.prog 58 #[.slice A n c, .func (.func 42) #[] #[]] w (fun v w1 => ((v = .int .i64 (-1) ∧ ∀ i, i < n → bs.getD i 0 = 0) ∨ ∃ k, k < n ∧ bs.getD k 0 ≠ 0 ∧ v = .int .i64 ((k : Nat) : Int)) ∧ Step No w w1) := by
 have hS : Step No w w := Step.refl _ _
 refine CV_enter Try.f58 _ 19 [(0, .slice A n c), (1, .func (.func 42) #[] #[])] Try.func58 rfl rfl (by kernel_rfl) rfl ?_
 refine VC_seq ?_
 refine VC_region ?_
 refine VL_pure 1 [0, 1] [(0, .slice A n c), (1, .func (.func 42) #[] #[])] (by kernel_rfl) rfl ?_
 refine VL_end (by kernel_rfl) ?_
 refine VQ_next ?_
 refine VC_seq ?_
 refine VC_seq ?_
 refine VC_region ?_
 refine VL_pure 3 [0, 1, 7, 8] [(0, .slice A n c), (1, .func (.func 42) #[] #[]), (7, .int .i64 ((n : Nat) : Int)), (8, .int .i64 0)] (by kernel_rfl) rfl ?_
 refine VL_end (by kernel_rfl) ?_
 refine VQ_next ?_
 refine VC_block ?_
 refine VC_loop (σ := Nat) (fun σs => [(0, .slice A n c), (1, .func (.func 42) #[] #[]), (7, .int .i64 ((n : Nat) : Int)), (8, .int .i64 ((σs : Nat) : Int))]) (fun σs w1 => (σs ≤ n) ∧ (∀ i, i < σs → bs.getD i 0 = 0) ∧ (Step No w w1) ∧ (Sl w1 Bd A (iL .u8 bs))) (fun σs w1 => n - σs) 0 ⟨rfl, rfl, rfl, rfl, trivial⟩ ?_ ?_
 ·exact ⟨Nat.zero_le _, fun i hi => absurd hi (Nat.not_lt_zero _), hS, hA⟩
 rintro k w1 ⟨hk, hz, hS, hA⟩
 try dsimp only at hk hz hS hA ⊢
 refine VC_seq ?_
 refine VC_region ?_
 refine VL_pure 1 [0, 1, 7, 8, 9] [(0, .slice A n c), (1, .func (.func 42) #[] #[]), (7, .int .i64 ((n : Nat) : Int)), (8, .int .i64 ((k : Nat) : Int)), (9, .bool (decide (((k : Nat) : Int) < ((n : Nat) : Int))))] (by kernel_rfl) rfl ?_
 refine VL_end (by kernel_rfl) ?_
 refine VQ_next ?_
 refine VC_seq ?_
 refine VC_dec (((k : Nat) : Int) < ((n : Nat) : Int)) (by kernel_rfl) (fun h1 => ?_) (fun h1 => ?_)
 ·refine VC_skip ?_
  refine VQ_next ?_
  refine VC_seq ?_
  refine VC_block ?_
  refine VC_seq ?_
  refine VC_region ?_
  refine VL_pure 2 [0, 1, 7, 8, 5] [(0, .slice A n c), (1, .func (.func 42) #[] #[]), (7, .int .i64 ((n : Nat) : Int)), (8, .int .i64 ((k : Nat) : Int)), (5, .int .i64 ((k : Nat) : Int))] (by kernel_rfl) rfl ?_
  refine VL_end (by kernel_rfl) ?_
  refine VQ_next ?_
  refine VC_seq ?_
  refine VC_region ?_
  refine VL_pure 3 [0, 1, 7, 8, 5, 11, 12, 13] [(0, .slice A n c), (1, .func (.func 42) #[] #[]), (7, .int .i64 ((n : Nat) : Int)), (8, .int .i64 ((k : Nat) : Int)), (5, .int .i64 ((k : Nat) : Int)), (11, .func (.func 42) #[] #[]), (12, .slice A n c), (13, .int .i64 ((k : Nat) : Int))] (by kernel_rfl) rfl ?_
  obtain ⟨sb1, so1, rfl, hlbsb1⟩ := hA.open (by simp only [iL_length]; omega)
  refine VL_index (d := 14) (b := sb1) (o := so1) (len := n) (sz := 1) (m := ((k : Nat) : Int)) (by kernel_rfl) (by kernel_rfl) k (by rfl) (by omega) (so1 + k) (by omega) ?_
  refine VL_load (d := 15) (t := 5) (a := ⟨sb1, so1 + k, none⟩) (v := .int .u8 (bs.getD k 0)) (by kernel_rfl) (by kernel_rfl) (Sl.ldI hA (by kernel_rfl) k (by (try simp only [List.length_set, List.length_append, List.length_map, List.length_replicate, List.length_cons, List.length_nil, List.length_take, List.length_drop, List.length_range]) <;> omega)) ?_
  have hzs1 := hS.size
  refine VL_call (d := 16) (f := 42) (args := #[.int .u8 (bs.getD k 0)]) (by kernel_rfl) (by kernel_rfl) (by kernel_rfl) Try.call42 (nz_any (bs.getD k 0) _) ?_
  rintro _ w2 ⟨rfl, hc1⟩
  replace hS := Step.trans hS hc1
  replace hA := hA.no hc1
  refine VL_end (by kernel_rfl) ?_
  refine VQ_next ?_
  refine VC_ne (bs.getD k 0) 0 (by kernel_rfl) (fun h2 => ?_) (fun h2 => ?_)
  ·refine VC_seq ?_
   refine VC_region ?_
   refine VL_pure 2 [4] [(4, .int .i64 ((k : Nat) : Int))] (by kernel_rfl) rfl ?_
   refine VL_end (by kernel_rfl) ?_
   refine VQ_next ?_
   refine VC_ret ?_
   refine VQ_block_ret ?_
   refine VQ_then_ret ?_
   refine VQ_then_ret ?_
   refine VQ_block_ret ?_
   refine VQ_then_ret ?_
   refine VQ_ret1 (.int .i64 ((k : Nat) : Int)) (.inr rfl) rfl rfl ?_
   exact ⟨.inr ⟨k, by omega, by assumption, rfl⟩, hS⟩
  ·refine VC_skip ?_
   refine VQ_block_normal ?_
   refine VQ_next ?_
   refine VC_region ?_
   refine VL_pure 1 [0, 1, 7, 18] [(0, .slice (some ⟨sb1, so1, none⟩) n c), (1, .func (.func 42) #[] #[]), (7, .int .i64 ((n : Nat) : Int)), (18, .int .i64 (IntKind.wrap .i64 (((k : Nat) : Int) + 1)))] (by kernel_rfl) rfl ?_
   have he1 : IntKind.wrap .i64 (((k : Nat) : Int) + 1) = ((k + 1 : Nat) : Int) := (by rw [wrap_i64 _ (by omega) (by omega)]; omega)
   refine VL_eq [(0, .slice (some ⟨sb1, so1, none⟩) n c), (1, .func (.func 42) #[] #[]), (7, .int .i64 ((n : Nat) : Int)), (18, .int .i64 ((k + 1 : Nat) : Int))] (by rw [he1]) ?_
   refine VL_pure 2 [0, 1, 7, 8] [(0, .slice (some ⟨sb1, so1, none⟩) n c), (1, .func (.func 42) #[] #[]), (7, .int .i64 ((n : Nat) : Int)), (8, .int .i64 ((k + 1 : Nat) : Int))] (by kernel_rfl) rfl ?_
   refine VL_end (by kernel_rfl) ?_
   refine VQ_again (k + 1) ⟨rfl, rfl, rfl, rfl, trivial⟩ ?_ ?_
   ·exact ⟨(by omega), fun i hi => by rcases Nat.lt_succ_iff_lt_or_eq.1 hi with h | rfl; exact hz i h; assumption, hS, hA⟩
   ·(try dsimp only); omega
 ·refine VC_exit ?_
  refine VQ_then_exit ?_
  refine VQ_then_exit ?_
  refine VQ_block_hit ?_
  refine VQ_next ?_
  refine VC_seq ?_
  refine VC_region ?_
  refine VL_pure 1 [4] [(4, .int .i64 (-1))] (by kernel_rfl) rfl ?_
  refine VL_end (by kernel_rfl) ?_
  refine VQ_next ?_
  refine VC_ret ?_
  refine VQ_ret1 (.int .i64 (-1)) (.inr rfl) rfl rfl ?_
  exact ⟨.inl ⟨rfl, fun i hi => hz i (by omega)⟩, hS⟩

theorem any_no {bs : List Int} {n : Nat} (hn : bs.length = n) (h : ∀ i, i < n → bs.getD i 0 = 0) : bs.any (fun x => x != 0) = false := by
  rw [List.any_eq_false]
  intro x hx
  obtain ⟨i, hi, rfl⟩ := List.getElem_of_mem hx
  have := h i (by omega)
  rw [List.getD, List.getElem?_eq_getElem hi] at this
  simpa using this
theorem any_yes {bs : List Int} {n k : Nat} (hn : bs.length = n) (hk : k < n) (h : bs.getD k 0 ≠ 0) : bs.any (fun x => x != 0) = true := by
  rw [List.any_eq_true]
  refine ⟨bs.getD k 0, ?_, by simpa using h⟩
  rw [List.getD, List.getElem?_eq_getElem (by omega)]
  exact List.getElem_mem _
set_option maxRecDepth 100000 in
set_option maxHeartbeats 4000000 in
theorem contains_any (A : Option Addr) (n c Bd : Nat) (bs : List Int) (w : World) (hn : bs.length = n) (hA : Sl w Bd A (iL .u8 bs)) (hBd : Bd ≤ w.heap.size) (hlen : n ≤ 1000000) :
  CV Try.prog 41 #[.slice A n c, .func (.func 42) #[] #[]] w (fun v w1 => v = .bool (bs.any (fun x => x != 0)) ∧ Step No w w1) := by
 have hS : Step No w w := Step.refl _ _
 refine CV_enter Try.f41 _ 9 [(0, .slice A n c), (1, .func (.func 42) #[] #[])] Try.func41 rfl rfl (by kernel_rfl) rfl ?_
 refine VC_seq ?_
 refine VC_region ?_
 refine VL_pure 1 [0, 1] [(0, .slice A n c), (1, .func (.func 42) #[] #[])] (by kernel_rfl) rfl ?_
 refine VL_end (by kernel_rfl) ?_
 refine VQ_next ?_
 refine VC_seq ?_
 refine VC_region ?_
 refine VL_pure 2 [5, 6] [(5, .slice A n c), (6, .func (.func 42) #[] #[])] (by kernel_rfl) rfl ?_
 refine VL_call (d := 7) (f := 58) (args := #[.slice A n c, .func (.func 42) #[] #[]]) (by kernel_rfl) (by kernel_rfl) (by kernel_rfl) Try.call58 (ixf_any A n c _ bs _ hn hA (by first | exact Nat.le_refl _ | omega) (by omega)) ?_
 rintro _ w1 ⟨(⟨rfl, hz⟩ | ⟨k, hk1, hk2, rfl⟩), hc1⟩
 ·replace hS := Step.trans hS hc1
  replace hA := hA.no hc1
  refine VL_pure 5 [4] [(4, .bool false)] (by kernel_rfl) rfl ?_
  refine VL_end (by kernel_rfl) ?_
  refine VQ_next ?_
  refine VC_ret ?_
  refine VQ_ret1 (.bool false) (.inr rfl) rfl rfl ?_
  exact ⟨by rw [any_no hn hz], hS⟩
 ·replace hS := Step.trans hS hc1
  replace hA := hA.no hc1
  refine VL_pure 5 [4] [(4, .bool (decide (((k : Nat) : Int) ≥ 0)))] (by kernel_rfl) rfl ?_
  refine VL_end (by kernel_rfl) ?_
  refine VQ_next ?_
  refine VC_ret ?_
  refine VQ_ret1 (.bool (decide (((k : Nat) : Int) ≥ 0))) (.inr rfl) rfl rfl ?_
  exact ⟨by rw [any_yes hn hk1 hk2]; exact congrArg Value.bool (decide_eq_true (by omega)), hS⟩

set_option maxRecDepth 100000 in
set_option maxHeartbeats 4000000 in
theorem unpack_any (A : Option Addr) (n c Bd : Nat) (bs : List Int) (w : World) (hn : bs.length = n) (hA : Sl w Bd A (iL .u8 bs)) (hb : Bytes bs) (hBd : Bd ≤ w.heap.size) (hlen : n ≤ 10000) (hc : n ≤ c) :
  CV Try.prog 22 #[.slice A n c] w (fun x w1 => ∃ A' c', x = .tuple #[.slice A' (unT bs).length c', .int .u8 (unM bs), .int .i64 (unE bs)] ∧ Rw w1 w.heap.size 5 A' (unT bs).length c' (iL .u8 (unT bs)) ∧ Step No w w1) := by
 have hS : Step No w w := Step.refl _ _
 refine CV_enter Try.f22 _ 72 [(0, .slice A n c)] Try.func22 rfl rfl (by kernel_rfl) rfl ?_
 refine VC_seq ?_
 refine VC_region ?_
 refine VL_pure 3 [0] [(0, .slice A n c)] (by kernel_rfl) rfl ?_
 refine VL_end (by kernel_rfl) ?_
 refine VQ_next ?_
 refine VC_seq ?_
 refine VC_region ?_
 refine VL_pure 3 [0, 5] [(0, .slice A n c), (5, .int .i64 ((n : Nat) : Int))] (by kernel_rfl) rfl ?_
 refine VL_end (by kernel_rfl) ?_
 refine VQ_next ?_
 refine VC_seq ?_
 refine VC_seq ?_
 refine VC_region ?_
 refine VL_pure 3 [0, 5, 12] [(0, .slice A n c), (5, .int .i64 ((n : Nat) : Int)), (12, .bool (((n : Nat) : Int) == 0))] (by kernel_rfl) rfl ?_
 refine VL_beq ((n : Nat) : Int) 0 (fun bV => [(0, .slice A n c), (5, .int .i64 ((n : Nat) : Int)), (12, .bool bV)]) rfl (fun hg1 => ?_) (fun hg1 => ?_)
 ·refine VL_pure 7 [0, 5, 16] [(0, .slice A n c), (5, .int .i64 ((n : Nat) : Int)), (16, .bool true)] (by kernel_rfl) rfl ?_
  refine VL_end (by kernel_rfl) ?_
  refine VQ_next ?_
  refine VC_true (by kernel_rfl) ?_
  refine VC_seq ?_
  refine VC_region ?_
  refine VL_pure 3 [2, 3, 4] [(2, .slice none 0 0), (3, .int .u8 0), (4, .int .i64 5)] (by kernel_rfl) rfl ?_
  refine VL_end (by kernel_rfl) ?_
  refine VQ_next ?_
  refine VC_ret ?_
  refine VQ_then_ret ?_
  refine VQ_ret3 (.slice none 0 0) (.int .u8 0) (.int .i64 5) (.inr rfl) rfl rfl rfl rfl ?_
  have e0 : unE bs = 5 := (by first | exact un_5a (by omega) | exact un_5b hn (by omega) (by omega) ‹_› (by first | exact .inl ‹_› | exact .inr (.inl (by omega)) | exact .inr (.inr (by omega))) | exact un_5c hn (by omega) (by omega) ‹_› ‹_› (by omega) (by omega) ‹_›)
  obtain ⟨e1, e2⟩ := un_err e0 (by decide)
  exact ⟨none, 0, by rw [e0, e1, e2]; rfl, by rw [e1]; exact Rw.nil _ _ _, hS⟩
 ·refine VL_pure 5 [0, 5, 12, 14] [(0, .slice A n c), (5, .int .i64 ((n : Nat) : Int)), (12, .bool false), (14, .int .i64 (((n : Nat) : Int).tmod 48))] (by kernel_rfl) rfl ?_
  have he1 : ((n : Nat) : Int).tmod 48 = ((n % 48 : Nat) : Int) := (tmod_nat n 48)
  refine VL_eq [(0, .slice A n c), (5, .int .i64 ((n : Nat) : Int)), (12, .bool false), (14, .int .i64 ((n % 48 : Nat) : Int))] (by rw [he1]) ?_
  refine VL_pure 7 [0, 5, 16] [(0, .slice A n c), (5, .int .i64 ((n : Nat) : Int)), (16, .bool (((n % 48 : Nat) : Int) != 0))] (by kernel_rfl) rfl ?_
  refine VL_end (by kernel_rfl) ?_
  refine VQ_next ?_
  refine VC_ne ((n % 48 : Nat) : Int) 0 (by kernel_rfl) (fun h1 => ?_) (fun h1 => ?_)
  ·refine VC_seq ?_
   refine VC_region ?_
   refine VL_pure 3 [2, 3, 4] [(2, .slice none 0 0), (3, .int .u8 0), (4, .int .i64 5)] (by kernel_rfl) rfl ?_
   refine VL_end (by kernel_rfl) ?_
   refine VQ_next ?_
   refine VC_ret ?_
   refine VQ_then_ret ?_
   refine VQ_ret3 (.slice none 0 0) (.int .u8 0) (.int .i64 5) (.inr rfl) rfl rfl rfl rfl ?_
   have e0 : unE bs = 5 := (by first | exact un_5a (by omega) | exact un_5b hn (by omega) (by omega) ‹_› (by first | exact .inl ‹_› | exact .inr (.inl (by omega)) | exact .inr (.inr (by omega))) | exact un_5c hn (by omega) (by omega) ‹_› ‹_› (by omega) (by omega) ‹_›)
   obtain ⟨e1, e2⟩ := un_err e0 (by decide)
   exact ⟨none, 0, by rw [e0, e1, e2]; rfl, by rw [e1]; exact Rw.nil _ _ _, hS⟩
  ·refine VC_skip ?_
   refine VQ_next ?_
   refine VC_seq ?_
   refine VC_seq ?_
   obtain ⟨sb1, so1, rfl, hlbsb1⟩ := hA.open (by simp only [iL_length]; omega)
   have hs1 := drew_step w
   have hs1z : w.heap.size = w.drew.heap.size := rfl
   refine VC_text [[], [], [1], [0, 1, 2], [], [], [5], [4, 5, 6], [4, 5, 6, 7], [0, 1, 2, 3, 4, 5, 6, 7, 8], [0, 1, 2, 3, 4, 5, 6, 7, 8, 9]] 9 (fun x y => Step (fun k => w.heap.size ≤ k) x y) [8] [0, 1, 2, 3, 4, 5, 6, 7, 8] (by kernel_rfl) (by kernel_rfl) (by kernel_rfl) (by kernel_rfl) (fun x => Step.refl _ x) (fun h k => Step.trans h k) Step.weak ?_
   have hzs1 := hS.size
   generalize w.drew = w1 at hs1 hs1z ⊢
   replace hS := Step.trans hS hs1
   replace hA := hA.no hs1
   refine VT_pures 3 (kn' := [(2, .int .i64 (IntKind.wrap .i64 (((n : Nat) : Int) - 4))), (1, .int .i64 ((n : Nat) : Int)), (0, .slice (some ⟨sb1, so1, none⟩) n c)]) (by kernel_rfl) ?_
   obtain ⟨so2, hso2⟩ : ∃ x, (if c = (n - 4) then so1 else so1 + (n - 4) * 1) = x := ⟨_, rfl⟩
   refine VT_slice (d := 20) (b := sb1) (o := so1) (sz := 1) (len := n) (cap := c) (lo := (some (IntKind.wrap .i64 (((n : Nat) : Int) - 4)))) (hi := none) (mx := none) (by kernel_rfl) (by kernel_rfl) (fun h => by first | exact absurd rfl h | exact (fun h => by cases h)) (n - 4) n c (show IntKind.wrap .i64 (((n : Nat) : Int) - 4) = ((n - 4 : Nat) : Int) from (by rw [wrap_i64 _ (by omega) (by omega)]; omega)) rfl rfl (by omega) (by omega) (by omega) so2 hso2 (n - (n - 4)) (by omega) (c - (n - 4)) (by omega) ?_
   have hsl1 := Sl.cutI (H := n) hA hso2 (by omega)
   refine VT_pures 3 (kn' := [(6, .int .i64 (IntKind.wrap .i64 (((n : Nat) : Int) - 4))), (5, .int .i64 ((n : Nat) : Int)), (4, .slice (some ⟨sb1, so1, none⟩) n c), (3, .slice (some ⟨sb1, so2, none⟩) (n - (n - 4)) (c - (n - 4))), (2, .int .i64 (IntKind.wrap .i64 (((n : Nat) : Int) - 4))), (1, .int .i64 ((n : Nat) : Int)), (0, .slice (some ⟨sb1, so1, none⟩) n c)]) (by kernel_rfl) ?_
   refine VT_slice (d := 24) (b := sb1) (o := so1) (sz := 1) (len := n) (cap := c) (lo := none) (hi := (some (IntKind.wrap .i64 (((n : Nat) : Int) - 4)))) (mx := none) (by kernel_rfl) (by kernel_rfl) (fun h => by first | exact absurd rfl h | exact (fun h => by cases h)) 0 (n - 4) c rfl (show IntKind.wrap .i64 (((n : Nat) : Int) - 4) = ((n - 4 : Nat) : Int) from (by rw [wrap_i64 _ (by omega) (by omega)]; omega)) rfl (by omega) (by omega) (by omega) so1 (by split <;> omega) (n - 4) (by omega) c (by omega) ?_
   have hsl2 := Sl.takeI hA (n - 4)
   refine VT_chain (by kernel_rfl) ?_
   intro w2 hs2
   have hzhs2 := hs2.size
   replace hS := Step.trans hS hs2
   replace hA := hA.no hs2
   replace hsl1 := hsl1.no hs2
   replace hsl2 := hsl2.no hs2
   have hzs2 := hS.size
   refine VTc_call (d := 25) (f := 39) (args := #[.slice (some ⟨sb1, so1, none⟩) (n - 4) c]) (by kernel_rfl) (by kernel_rfl) (by kernel_rfl) Try.call39 (sum_any (some ⟨sb1, so1, none⟩) (n - 4) c _ (bs.take (n - 4)) _ (by simp only [List.length_take, List.length_drop]; omega) hsl2 (by omega) (by first | exact Nat.le_refl _ | omega)) ?_ ?_
   ·rintro _ w3 ⟨sg1, rfl, hggsg1, ho1, hc1⟩
    exact Step.mono hc1 (by intro i hi; first | exact hi.elim | ((try simp only at hi ⊢); omega))
   rintro _ w3 ⟨sg1, rfl, hggsg1, ho1, hc1⟩
   have hzhc1 := (hc1).size
   replace hS := Step.trans hS hc1
   replace hA := hA.no hc1
   replace hsl1 := hsl1.no hc1
   replace hsl2 := hsl2.no hc1
   have hzgsg1 := ho1.lt
   refine VT_end ?_
   intro w4 hs3
   replace hS := Step.trans hS hs3
   replace hA := hA.no hs3
   replace hsl1 := hsl1.no hs3
   replace hsl2 := hsl2.no hs3
   replace ho1 := ho1.no hs3
   refine VL_keep [0, 5, 20, 25] [(0, .slice (some ⟨sb1, so1, none⟩) n c), (5, .int .i64 ((n : Nat) : Int)), (20, .slice (some ⟨sb1, so2, none⟩) (n - (n - 4)) (c - (n - 4))), (25, .slice (some ⟨sg1, 0, none⟩) 4 4)] (by kernel_rfl) ?_
   have hzs3 := hS.size
   have hzl1 := ho1.lt
   refine VL_call (d := 26) (f := 40) (args := #[.slice (some ⟨sb1, so2, none⟩) (n - (n - 4)) (c - (n - 4)), .slice (some ⟨sg1, 0, none⟩) 4 4]) (by kernel_rfl) (by kernel_rfl) (by kernel_rfl) Try.call40 (equal2_any sb1 so2 (n - (n - 4)) (c - (n - 4)) _ sg1 0 4 4 _ ((bs.drop (n - 4)).take (n - (n - 4))) (sumL (bs.take (n - 4))) _ (by simp only [List.length_take, List.length_drop]; omega) hsl1 rfl (Sl.cast (Own.sl ho1 ho1.lt) (by rfl)) ((hb.drop _).take _) (sumL_bytes _)) ?_
   rintro _ w5 ⟨rfl, hc2⟩
   replace hS := Step.trans hS hc2
   replace hA := hA.no hc2
   replace hsl1 := hsl1.no hc2
   replace hsl2 := hsl2.no hc2
   replace ho1 := ho1.no hc2
   refine VL_pure 11 [0, 5, 27] [(0, .slice (some ⟨sb1, so1, none⟩) n c), (5, .int .i64 ((n : Nat) : Int)), (27, .bool (!(((bs.drop (n - 4)).take (n - (n - 4))) == (sumL (bs.take (n - 4))))))] (by kernel_rfl) rfl ?_
   refine VL_end (by kernel_rfl) ?_
   refine VQ_next ?_
   refine VC_cond (!(((bs.drop (n - 4)).take (n - (n - 4))) == (sumL (bs.take (n - 4))))) (by kernel_rfl) (fun h2 => ?_) (fun h2 => ?_)
   ·try simp only [Bool.and_eq_true, Bool.or_eq_true, decide_eq_true_eq, Bool.not_eq_true', decide_eq_false_iff_not, Bool.and_eq_false_iff, Bool.or_eq_false_iff, beq_iff_eq, bne_iff_ne, beq_eq_false_iff_ne, bne_eq_false_iff_eq, Bool.not_eq_eq_eq_not, Bool.not_true, Bool.not_false] at h2
    refine VC_seq ?_
    refine VC_region ?_
    refine VL_pure 3 [2, 3, 4] [(2, .slice none 0 0), (3, .int .u8 0), (4, .int .i64 4)] (by kernel_rfl) rfl ?_
    refine VL_end (by kernel_rfl) ?_
    refine VQ_next ?_
    refine VC_ret ?_
    refine VQ_then_ret ?_
    refine VQ_ret3 (.slice none 0 0) (.int .u8 0) (.int .i64 4) (.inr rfl) rfl rfl rfl rfl ?_
    have e0 : unE bs = 4 := un_4 hn (by omega) (by omega) ‹_›
    obtain ⟨e1, e2⟩ := un_err e0 (by decide)
    exact ⟨none, 0, by rw [e0, e1, e2]; rfl, by rw [e1]; exact Rw.nil _ _ _, hS⟩
   ·try simp only [Bool.and_eq_true, Bool.or_eq_true, decide_eq_true_eq, Bool.not_eq_true', decide_eq_false_iff_not, Bool.and_eq_false_iff, Bool.or_eq_false_iff, beq_iff_eq, bne_iff_ne, beq_eq_false_iff_ne, bne_eq_false_iff_eq, Bool.not_eq_eq_eq_not, Bool.not_true, Bool.not_false] at h2
    refine VC_skip ?_
    refine VQ_next ?_
    refine VC_seq ?_
    refine VC_region ?_
    refine VL_pure 3 [0, 5, 28, 30] [(0, .slice (some ⟨sb1, so1, none⟩) n c), (5, .int .i64 ((n : Nat) : Int)), (28, .slice (some ⟨sb1, so1, none⟩) n c), (30, .int .i64 (IntKind.wrap .i64 (((n : Nat) : Int) - 8)))] (by kernel_rfl) rfl ?_
    have he2 : IntKind.wrap .i64 (((n : Nat) : Int) - 8) = ((n - 8 : Nat) : Int) := (by rw [wrap_i64 _ (by omega) (by omega)]; omega)
    refine VL_eq [(0, .slice (some ⟨sb1, so1, none⟩) n c), (5, .int .i64 ((n : Nat) : Int)), (28, .slice (some ⟨sb1, so1, none⟩) n c), (30, .int .i64 ((n - 8 : Nat) : Int))] (by rw [he2]) ?_
    obtain ⟨so3, hso3⟩ : ∃ x, (if c = (n - 8) then so1 else so1 + (n - 8) * 1) = x := ⟨_, rfl⟩
    refine VL_slice (d := 31) (b := sb1) (o := so1) (sz := 1) (len := n) (cap := c) (lo := (some ((n - 8 : Nat) : Int))) (hi := none) (mx := none) (by kernel_rfl) (by kernel_rfl) (fun h => by first | exact absurd rfl h | exact (fun h => by cases h)) (n - 8) n c rfl rfl rfl (by omega) (by omega) (by omega) so3 hso3 (n - (n - 8)) (by omega) (c - (n - 8)) (by omega) ?_
    have hsl3 := Sl.cutI (H := n) hA hso3 (by omega)
    refine VL_pure 5 [0, 5, 6] [(0, .slice (some ⟨sb1, so1, none⟩) n c), (5, .int .i64 ((n : Nat) : Int)), (6, .slice (some ⟨sb1, so3, none⟩) (n - (n - 8)) (c - (n - 8)))] (by kernel_rfl) rfl ?_
    refine VL_end (by kernel_rfl) ?_
    refine VQ_next ?_
    refine VC_seq ?_
    refine VC_det [[], [0], [0, 1], [0, 1, 2], [0, 1, 2, 3], [], [5], [5, 6], [5, 6, 7], [0, 1, 2, 3, 4, 5, 6, 7, 8], [0, 1, 2, 3, 4, 5, 6, 7, 8, 9]] 9 [.slice (some ⟨sb1, so3, none⟩) (n - (n - 8)) (c - (n - 8)), .pointer (some ⟨sb1, so3 + 2, none⟩), .int .u8 (((bs.drop (n - 8)).take (n - (n - 8))).getD 2 0), .int .i64 (IntKind.wrap .i64 (((bs.drop (n - 8)).take (n - (n - 8))).getD 2 0)), .int .i64 (IntKind.wrap .i64 ((IntKind.wrap .i64 (((bs.drop (n - 8)).take (n - (n - 8))).getD 2 0)) * 2 ^ 8)), .slice (some ⟨sb1, so3, none⟩) (n - (n - 8)) (c - (n - 8)), .pointer (some ⟨sb1, so3 + 3, none⟩), .int .u8 (((bs.drop (n - 8)).take (n - (n - 8))).getD 3 0), .int .i64 (IntKind.wrap .i64 (((bs.drop (n - 8)).take (n - (n - 8))).getD 3 0))] [0, 3, 4, 5, 8] [1, 2, 6, 7] (by kernel_rfl) (by kernel_rfl) (by kernel_rfl) (by kernel_rfl) ?_ ?_
    ·intro w6 hs4
     replace hS := Step.trans hS hs4
     replace hA := hA.no hs4
     replace hsl1 := hsl1.no hs4
     replace hsl2 := hsl2.no hs4
     replace ho1 := ho1.no hs4
     replace hsl3 := hsl3.no hs4
     exact ⟨Det1_index (d := 33) (b := sb1) (o := so3) (len := (n - (n - 8))) (sz := 1) (m := 2) (by kernel_rfl) (by kernel_rfl) 2 (by rfl) (by omega) (so3 + 2) (by omega), Det1_load (d := 34) (t := 5) (a := ⟨sb1, so3 + 2, none⟩) (by kernel_rfl) (by kernel_rfl) (Sl.ldI hsl3 (by kernel_rfl) 2 (by simp only [List.length_take, List.length_drop]; omega)), Det1_index (d := 38) (b := sb1) (o := so3) (len := (n - (n - 8))) (sz := 1) (m := 3) (by kernel_rfl) (by kernel_rfl) 3 (by rfl) (by omega) (so3 + 3) (by omega), Det1_load (d := 39) (t := 5) (a := ⟨sb1, so3 + 3, none⟩) (by kernel_rfl) (by kernel_rfl) (Sl.ldI hsl3 (by kernel_rfl) 3 (by simp only [List.length_take, List.length_drop]; omega)), trivial⟩
    intro w6 hs4
    replace hS := Step.trans hS hs4
    replace hA := hA.no hs4
    replace hsl1 := hsl1.no hs4
    replace hsl2 := hsl2.no hs4
    replace ho1 := ho1.no hs4
    replace hsl3 := hsl3.no hs4
    refine VL_keep [0, 5, 6, 36, 40] [(0, .slice (some ⟨sb1, so1, none⟩) n c), (5, .int .i64 ((n : Nat) : Int)), (6, .slice (some ⟨sb1, so3, none⟩) (n - (n - 8)) (c - (n - 8))), (36, .int .i64 (IntKind.wrap .i64 ((IntKind.wrap .i64 (((bs.drop (n - 8)).take (n - (n - 8))).getD 2 0)) * 2 ^ 8))), (40, .int .i64 (IntKind.wrap .i64 (((bs.drop (n - 8)).take (n - (n - 8))).getD 3 0)))] (by kernel_rfl) ?_
    refine VL_pure 11 [0, 5, 6, 7] [(0, .slice (some ⟨sb1, so1, none⟩) n c), (5, .int .i64 ((n : Nat) : Int)), (6, .slice (some ⟨sb1, so3, none⟩) (n - (n - 8)) (c - (n - 8))), (7, .int .i64 (bOr .i64 (IntKind.wrap .i64 ((IntKind.wrap .i64 (((bs.drop (n - 8)).take (n - (n - 8))).getD 2 0)) * 2 ^ 8)) (IntKind.wrap .i64 (((bs.drop (n - 8)).take (n - (n - 8))).getD 3 0))))] (by kernel_rfl) rfl ?_
    refine VL_end (by kernel_rfl) ?_
    refine VQ_next ?_
    refine VC_seq ?_
    refine VC_seq ?_
    have hlq := lenF_lt (n := n) hb
    refine VC_eqL [(0, .slice (some ⟨sb1, so1, none⟩) n c), (5, .int .i64 ((n : Nat) : Int)), (6, .slice (some ⟨sb1, so3, none⟩) (n - (n - 8)) (c - (n - 8))), (7, .int .i64 ((lenF bs n : Nat) : Int))] (by rw [← lenF_eq hb]; rfl) ?_
    refine VC_region ?_
    refine VL_pure 1 [0, 5, 6, 7, 42] [(0, .slice (some ⟨sb1, so1, none⟩) n c), (5, .int .i64 ((n : Nat) : Int)), (6, .slice (some ⟨sb1, so3, none⟩) (n - (n - 8)) (c - (n - 8))), (7, .int .i64 ((lenF bs n : Nat) : Int)), (42, .slice (some ⟨sb1, so3, none⟩) (n - (n - 8)) (c - (n - 8)))] (by kernel_rfl) rfl ?_
    refine VL_index (d := 43) (b := sb1) (o := so3) (len := (n - (n - 8))) (sz := 1) (m := 1) (by kernel_rfl) (by kernel_rfl) 1 (by rfl) (by omega) (so3 + 1) (by omega) ?_
    refine VL_load (d := 44) (t := 5) (a := ⟨sb1, so3 + 1, none⟩) (v := .int .u8 (((bs.drop (n - 8)).take (n - (n - 8))).getD 1 0)) (by kernel_rfl) (by kernel_rfl) (Sl.ldI hsl3 (by kernel_rfl) 1 (by simp only [List.length_take, List.length_drop]; omega)) ?_
    refine VL_pure 5 [0, 5, 6, 7, 46] [(0, .slice (some ⟨sb1, so1, none⟩) n c), (5, .int .i64 ((n : Nat) : Int)), (6, .slice (some ⟨sb1, so3, none⟩) (n - (n - 8)) (c - (n - 8))), (7, .int .i64 ((lenF bs n : Nat) : Int)), (46, .bool ((((bs.drop (n - 8)).take (n - (n - 8))).getD 1 0) != 0))] (by kernel_rfl) rfl ?_
    refine VL_bne (((bs.drop (n - 8)).take (n - (n - 8))).getD 1 0) 0 (fun bV => [(0, .slice (some ⟨sb1, so1, none⟩) n c), (5, .int .i64 ((n : Nat) : Int)), (6, .slice (some ⟨sb1, so3, none⟩) (n - (n - 8)) (c - (n - 8))), (7, .int .i64 ((lenF bs n : Nat) : Int)), (46, .bool bV)]) rfl (fun hg2 => ?_) (fun hg2 => ?_)
    ·refine VL_pure 15 [0, 5, 6, 7, 56] [(0, .slice (some ⟨sb1, so1, none⟩) n c), (5, .int .i64 ((n : Nat) : Int)), (6, .slice (some ⟨sb1, so3, none⟩) (n - (n - 8)) (c - (n - 8))), (7, .int .i64 ((lenF bs n : Nat) : Int)), (56, .bool true)] (by kernel_rfl) rfl ?_
     refine VL_end (by kernel_rfl) ?_
     refine VQ_next ?_
     refine VC_true (by kernel_rfl) ?_
     refine VC_seq ?_
     refine VC_region ?_
     refine VL_pure 3 [2, 3, 4] [(2, .slice none 0 0), (3, .int .u8 0), (4, .int .i64 5)] (by kernel_rfl) rfl ?_
     refine VL_end (by kernel_rfl) ?_
     refine VQ_next ?_
     refine VC_ret ?_
     refine VQ_then_ret ?_
     refine VQ_ret3 (.slice none 0 0) (.int .u8 0) (.int .i64 5) (.inr rfl) rfl rfl rfl rfl ?_
     have e0 : unE bs = 5 := (by first | exact un_5a (by omega) | exact un_5b hn (by omega) (by omega) ‹_› (by first | exact .inl ‹_› | exact .inr (.inl (by omega)) | exact .inr (.inr (by omega))) | exact un_5c hn (by omega) (by omega) ‹_› ‹_› (by omega) (by omega) ‹_›)
     obtain ⟨e1, e2⟩ := un_err e0 (by decide)
     exact ⟨none, 0, by rw [e0, e1, e2]; rfl, by rw [e1]; exact Rw.nil _ _ _, hS⟩
    ·refine VL_pure 9 [0, 5, 6, 7, 50] [(0, .slice (some ⟨sb1, so1, none⟩) n c), (5, .int .i64 ((n : Nat) : Int)), (6, .slice (some ⟨sb1, so3, none⟩) (n - (n - 8)) (c - (n - 8))), (7, .int .i64 ((lenF bs n : Nat) : Int)), (50, .bool (((lenF bs n : Nat) : Int) == 0))] (by kernel_rfl) rfl ?_
     refine VL_beq ((lenF bs n : Nat) : Int) 0 (fun bV => [(0, .slice (some ⟨sb1, so1, none⟩) n c), (5, .int .i64 ((n : Nat) : Int)), (6, .slice (some ⟨sb1, so3, none⟩) (n - (n - 8)) (c - (n - 8))), (7, .int .i64 ((lenF bs n : Nat) : Int)), (50, .bool bV)]) rfl (fun hg3 => ?_) (fun hg3 => ?_)
     ·refine VL_pure 15 [0, 5, 6, 7, 56] [(0, .slice (some ⟨sb1, so1, none⟩) n c), (5, .int .i64 ((n : Nat) : Int)), (6, .slice (some ⟨sb1, so3, none⟩) (n - (n - 8)) (c - (n - 8))), (7, .int .i64 ((lenF bs n : Nat) : Int)), (56, .bool true)] (by kernel_rfl) rfl ?_
      refine VL_end (by kernel_rfl) ?_
      refine VQ_next ?_
      refine VC_true (by kernel_rfl) ?_
      refine VC_seq ?_
      refine VC_region ?_
      refine VL_pure 3 [2, 3, 4] [(2, .slice none 0 0), (3, .int .u8 0), (4, .int .i64 5)] (by kernel_rfl) rfl ?_
      refine VL_end (by kernel_rfl) ?_
      refine VQ_next ?_
      refine VC_ret ?_
      refine VQ_then_ret ?_
      refine VQ_ret3 (.slice none 0 0) (.int .u8 0) (.int .i64 5) (.inr rfl) rfl rfl rfl rfl ?_
      have e0 : unE bs = 5 := (by first | exact un_5a (by omega) | exact un_5b hn (by omega) (by omega) ‹_› (by first | exact .inl ‹_› | exact .inr (.inl (by omega)) | exact .inr (.inr (by omega))) | exact un_5c hn (by omega) (by omega) ‹_› ‹_› (by omega) (by omega) ‹_›)
      obtain ⟨e1, e2⟩ := un_err e0 (by decide)
      exact ⟨none, 0, by rw [e0, e1, e2]; rfl, by rw [e1]; exact Rw.nil _ _ _, hS⟩
     ·refine VL_pure 10 [0, 5, 6, 7, 50, 51] [(0, .slice (some ⟨sb1, so1, none⟩) n c), (5, .int .i64 ((n : Nat) : Int)), (6, .slice (some ⟨sb1, so3, none⟩) (n - (n - 8)) (c - (n - 8))), (7, .int .i64 ((lenF bs n : Nat) : Int)), (50, .bool false), (51, .int .i64 ((lenF bs n : Nat) : Int))] (by kernel_rfl) rfl ?_
      have hzs4 := hS.size
      have hzl2 := ho1.lt
      refine VL_call (d := 52) (f := 38) (args := #[.int .i64 ((lenF bs n : Nat) : Int)]) (by kernel_rfl) (by kernel_rfl) (by kernel_rfl) Try.call38 (many_nat (lenF bs n) _ (by omega)) ?_
      rintro _ w7 ⟨rfl, hc3⟩
      replace hS := Step.trans hS hc3
      replace hA := hA.no hc3
      replace hsl1 := hsl1.no hc3
      replace hsl2 := hsl2.no hc3
      replace ho1 := ho1.no hc3
      replace hsl3 := hsl3.no hc3
      have hmnq1 := many_le (lenF bs n)
      refine VL_pure 12 [0, 5, 6, 7, 50, 53] [(0, .slice (some ⟨sb1, so1, none⟩) n c), (5, .int .i64 ((n : Nat) : Int)), (6, .slice (some ⟨sb1, so3, none⟩) (n - (n - 8)) (c - (n - 8))), (7, .int .i64 ((lenF bs n : Nat) : Int)), (50, .bool false), (53, .int .i64 (IntKind.wrap .i64 (((manyN (lenF bs n) : Nat) : Int) * 48)))] (by kernel_rfl) rfl ?_
      have he3 : IntKind.wrap .i64 (((manyN (lenF bs n) : Nat) : Int) * 48) = (((manyN (lenF bs n)) * 48 : Nat) : Int) := (by rw [wrap_i64 _ (by omega) (by omega)]; omega)
      refine VL_eq [(0, .slice (some ⟨sb1, so1, none⟩) n c), (5, .int .i64 ((n : Nat) : Int)), (6, .slice (some ⟨sb1, so3, none⟩) (n - (n - 8)) (c - (n - 8))), (7, .int .i64 ((lenF bs n : Nat) : Int)), (50, .bool false), (53, .int .i64 (((manyN (lenF bs n)) * 48 : Nat) : Int))] (by rw [he3]) ?_
      refine VL_pure 15 [0, 5, 6, 7, 56] [(0, .slice (some ⟨sb1, so1, none⟩) n c), (5, .int .i64 ((n : Nat) : Int)), (6, .slice (some ⟨sb1, so3, none⟩) (n - (n - 8)) (c - (n - 8))), (7, .int .i64 ((lenF bs n : Nat) : Int)), (56, .bool ((((manyN (lenF bs n)) * 48 : Nat) : Int) != ((n : Nat) : Int)))] (by kernel_rfl) rfl ?_
      refine VL_end (by kernel_rfl) ?_
      refine VQ_next ?_
      refine VC_ne (((manyN (lenF bs n)) * 48 : Nat) : Int) ((n : Nat) : Int) (by kernel_rfl) (fun h3 => ?_) (fun h3 => ?_)
      ·refine VC_seq ?_
       refine VC_region ?_
       refine VL_pure 3 [2, 3, 4] [(2, .slice none 0 0), (3, .int .u8 0), (4, .int .i64 5)] (by kernel_rfl) rfl ?_
       refine VL_end (by kernel_rfl) ?_
       refine VQ_next ?_
       refine VC_ret ?_
       refine VQ_then_ret ?_
       refine VQ_ret3 (.slice none 0 0) (.int .u8 0) (.int .i64 5) (.inr rfl) rfl rfl rfl rfl ?_
       have e0 : unE bs = 5 := (by first | exact un_5a (by omega) | exact un_5b hn (by omega) (by omega) ‹_› (by first | exact .inl ‹_› | exact .inr (.inl (by omega)) | exact .inr (.inr (by omega))) | exact un_5c hn (by omega) (by omega) ‹_› ‹_› (by omega) (by omega) ‹_›)
       obtain ⟨e1, e2⟩ := un_err e0 (by decide)
       exact ⟨none, 0, by rw [e0, e1, e2]; rfl, by rw [e1]; exact Rw.nil _ _ _, hS⟩
      ·refine VC_skip ?_
       refine VQ_next ?_
       refine VC_seq ?_
       refine VC_seq ?_
       refine VC_region ?_
       refine VL_pure 4 [0, 6, 7, 57, 58, 60] [(0, .slice (some ⟨sb1, so1, none⟩) n c), (6, .slice (some ⟨sb1, so3, none⟩) (n - (n - 8)) (c - (n - 8))), (7, .int .i64 ((lenF bs n : Nat) : Int)), (57, .slice (some ⟨sb1, so1, none⟩) n c), (58, .int .i64 ((lenF bs n : Nat) : Int)), (60, .int .i64 (IntKind.wrap .i64 (((n : Nat) : Int) - 8)))] (by kernel_rfl) rfl ?_
       have he4 : IntKind.wrap .i64 (((n : Nat) : Int) - 8) = ((n - 8 : Nat) : Int) := (by rw [wrap_i64 _ (by omega) (by omega)]; omega)
       refine VL_eq [(0, .slice (some ⟨sb1, so1, none⟩) n c), (6, .slice (some ⟨sb1, so3, none⟩) (n - (n - 8)) (c - (n - 8))), (7, .int .i64 ((lenF bs n : Nat) : Int)), (57, .slice (some ⟨sb1, so1, none⟩) n c), (58, .int .i64 ((lenF bs n : Nat) : Int)), (60, .int .i64 ((n - 8 : Nat) : Int))] (by rw [he4]) ?_
       obtain ⟨so4, hso4⟩ : ∃ x, (if c = (lenF bs n) then so1 else so1 + (lenF bs n) * 1) = x := ⟨_, rfl⟩
       refine VL_slice (d := 61) (b := sb1) (o := so1) (sz := 1) (len := n) (cap := c) (lo := (some ((lenF bs n : Nat) : Int))) (hi := (some ((n - 8 : Nat) : Int))) (mx := none) (by kernel_rfl) (by kernel_rfl) (fun h => by first | exact absurd rfl h | exact (fun h => by cases h)) (lenF bs n) (n - 8) c rfl rfl rfl (by omega) (by omega) (by omega) so4 hso4 ((n - 8) - (lenF bs n)) (by omega) (c - (lenF bs n)) (by omega) ?_
       have hsl4 := Sl.cutI (H := n - 8) hA hso4 (by omega)
       have hzs5 := hS.size
       have hzl3 := ho1.lt
       refine VL_call (d := 62) (f := 41) (args := #[.slice (some ⟨sb1, so4, none⟩) ((n - 8) - (lenF bs n)) (c - (lenF bs n)), .func (.func 42) #[] #[]]) (by kernel_rfl) (by kernel_rfl) (by kernel_rfl) Try.call41 (contains_any (some ⟨sb1, so4, none⟩) ((n - 8) - (lenF bs n)) (c - (lenF bs n)) _ ((bs.drop (lenF bs n)).take ((n - 8) - (lenF bs n))) _ (by simp only [List.length_take, List.length_drop]; omega) hsl4 (by first | exact Nat.le_refl _ | omega) (by omega)) ?_
       rintro _ w8 ⟨rfl, hc4⟩
       replace hS := Step.trans hS hc4
       replace hA := hA.no hc4
       replace hsl1 := hsl1.no hc4
       replace hsl2 := hsl2.no hc4
       replace ho1 := ho1.no hc4
       replace hsl3 := hsl3.no hc4
       replace hsl4 := hsl4.no hc4
       refine VL_end (by kernel_rfl) ?_
       refine VQ_next ?_
       refine VC_cond ((midF bs n).any (fun x => x != 0)) (by kernel_rfl) (fun h4 => ?_) (fun h4 => ?_)
       ·try simp only [Bool.and_eq_true, Bool.or_eq_true, decide_eq_true_eq, Bool.not_eq_true', decide_eq_false_iff_not, Bool.and_eq_false_iff, Bool.or_eq_false_iff, beq_iff_eq, bne_iff_ne, beq_eq_false_iff_ne, bne_eq_false_iff_eq, Bool.not_eq_eq_eq_not, Bool.not_true, Bool.not_false] at h4
        refine VC_seq ?_
        refine VC_region ?_
        refine VL_pure 3 [2, 3, 4] [(2, .slice none 0 0), (3, .int .u8 0), (4, .int .i64 5)] (by kernel_rfl) rfl ?_
        refine VL_end (by kernel_rfl) ?_
        refine VQ_next ?_
        refine VC_ret ?_
        refine VQ_then_ret ?_
        refine VQ_ret3 (.slice none 0 0) (.int .u8 0) (.int .i64 5) (.inr rfl) rfl rfl rfl rfl ?_
        have e0 : unE bs = 5 := (by first | exact un_5a (by omega) | exact un_5b hn (by omega) (by omega) ‹_› (by first | exact .inl ‹_› | exact .inr (.inl (by omega)) | exact .inr (.inr (by omega))) | exact un_5c hn (by omega) (by omega) ‹_› ‹_› (by omega) (by omega) ‹_›)
        obtain ⟨e1, e2⟩ := un_err e0 (by decide)
        exact ⟨none, 0, by rw [e0, e1, e2]; rfl, by rw [e1]; exact Rw.nil _ _ _, hS⟩
       ·try simp only [Bool.and_eq_true, Bool.or_eq_true, decide_eq_true_eq, Bool.not_eq_true', decide_eq_false_iff_not, Bool.and_eq_false_iff, Bool.or_eq_false_iff, beq_iff_eq, bne_iff_ne, beq_eq_false_iff_ne, bne_eq_false_iff_eq, Bool.not_eq_eq_eq_not, Bool.not_true, Bool.not_false] at h4
        refine VC_skip ?_
        refine VQ_next ?_
        refine VC_seq ?_
        refine VC_seq ?_
        refine VC_region ?_
        refine VL_pure 2 [0, 6, 7, 64] [(0, .slice (some ⟨sb1, so1, none⟩) n c), (6, .slice (some ⟨sb1, so3, none⟩) (n - (n - 8)) (c - (n - 8))), (7, .int .i64 ((lenF bs n : Nat) : Int)), (64, .bool (decide (((lenF bs n : Nat) : Int) > 1000)))] (by kernel_rfl) rfl ?_
        refine VL_end (by kernel_rfl) ?_
        refine VQ_next ?_
        refine VC_dec (((lenF bs n : Nat) : Int) > 1000) (by kernel_rfl) (fun h5 => ?_) (fun h5 => ?_)
        ·refine VC_seq ?_
         refine VC_region ?_
         refine VL_pure 3 [2, 3, 4] [(2, .slice none 0 0), (3, .int .u8 0), (4, .int .i64 6)] (by kernel_rfl) rfl ?_
         refine VL_end (by kernel_rfl) ?_
         refine VQ_next ?_
         refine VC_ret ?_
         refine VQ_then_ret ?_
         refine VQ_ret3 (.slice none 0 0) (.int .u8 0) (.int .i64 6) (.inr rfl) rfl rfl rfl rfl ?_
         have e0 : unE bs = 6 := un_6 hn (by omega) (by omega) ‹_› ‹_› (by omega) (by omega) ‹_› (by omega)
         obtain ⟨e1, e2⟩ := un_err e0 (by decide)
         exact ⟨none, 0, by rw [e0, e1, e2]; rfl, by rw [e1]; exact Rw.nil _ _ _, hS⟩
        ·refine VC_skip ?_
         refine VQ_next ?_
         refine VC_seq ?_
         have hs5 := drew_step w8
         have hs5z : w8.heap.size = w8.drew.heap.size := rfl
         refine VC_text [[], [], [0, 1], [0, 1, 2], [], [4], [4, 5], [0, 1, 2, 3], [0, 1, 2, 3, 4, 5, 6, 7], [0, 1, 2, 3, 4, 5, 6, 7, 8]] 8 (fun x y => Step (fun k => w8.heap.size ≤ k) x y) [3] [0, 1, 2, 4, 5, 6, 3, 7] (by kernel_rfl) (by kernel_rfl) (by kernel_rfl) (by kernel_rfl) (fun x => Step.refl _ x) (fun h k => Step.trans h k) Step.weak ?_
         have hzs6 := hS.size
         have hzl4 := ho1.lt
         generalize w8.drew = w9 at hs5 hs5z ⊢
         replace hS := Step.trans hS hs5
         replace hA := hA.no hs5
         replace hsl1 := hsl1.no hs5
         replace hsl2 := hsl2.no hs5
         replace ho1 := ho1.no hs5
         replace hsl3 := hsl3.no hs5
         replace hsl4 := hsl4.no hs5
         refine VT_pures 2 (kn' := [(1, .int .i64 ((lenF bs n : Nat) : Int)), (0, .slice (some ⟨sb1, so1, none⟩) n c)]) (by kernel_rfl) ?_
         refine VT_slice (d := 67) (b := sb1) (o := so1) (sz := 1) (len := n) (cap := c) (lo := none) (hi := (some ((lenF bs n : Nat) : Int))) (mx := none) (by kernel_rfl) (by kernel_rfl) (fun h => by first | exact absurd rfl h | exact (fun h => by cases h)) 0 (lenF bs n) c rfl rfl rfl (by omega) (by omega) (by omega) so1 (by split <;> omega) (lenF bs n) (by omega) c (by omega) ?_
         have hsl5 := Sl.takeI hA (lenF bs n)
         refine VT_pures 1 (kn' := [(4, .slice (some ⟨sb1, so3, none⟩) (n - (n - 8)) (c - (n - 8))), (2, .slice (some ⟨sb1, so1, none⟩) (lenF bs n) c), (1, .int .i64 ((lenF bs n : Nat) : Int)), (0, .slice (some ⟨sb1, so1, none⟩) n c)]) (by kernel_rfl) ?_
         refine VT_index (d := 70) (b := sb1) (o := so3) (len := (n - (n - 8))) (sz := 1) (mm := 0) (by kernel_rfl) (by kernel_rfl) 0 (by rfl) (by omega) so3 (by omega) ?_
         refine VT_load (d := 71) (t := 5) (a := ⟨sb1, so3, none⟩) (v := .int .u8 (((bs.drop (n - 8)).take (n - (n - 8))).getD 0 0)) (by kernel_rfl) (by kernel_rfl) ?_ ?_
         ·intro w10 hr1
          replace hS := Step.transNew hS hr1 (fun i hi hG => by (try simp only at hG); omega)
          replace hA := hA.keepB hr1 (by (try simp only); omega)
          replace hsl1 := hsl1.keepB hr1 (by (try simp only); omega)
          replace hsl2 := hsl2.keepB hr1 (by (try simp only); omega)
          replace ho1 := ho1.step hr1 (by (try simp only); omega)
          replace hsl3 := hsl3.keepB hr1 (by (try simp only); omega)
          replace hsl4 := hsl4.keepB hr1 (by (try simp only); omega)
          replace hsl5 := hsl5.keepB hr1 (by (try simp only); omega)
          exact (Sl.ldI hsl3 (by kernel_rfl) 0 (by simp only [List.length_take, List.length_drop]; omega))
         refine VT_chain (by kernel_rfl) ?_
         intro w11 hs6
         have hzhs6 := hs6.size
         replace hS := Step.trans hS hs6
         replace hA := hA.no hs6
         replace hsl1 := hsl1.no hs6
         replace hsl2 := hsl2.no hs6
         replace ho1 := ho1.no hs6
         replace hsl3 := hsl3.no hs6
         replace hsl4 := hsl4.no hs6
         replace hsl5 := hsl5.no hs6
         have hzs7 := hS.size
         have hzl5 := ho1.lt
         refine VTc_call (d := 68) (f := 43) (args := #[.slice (some ⟨sb1, so1, none⟩) (lenF bs n) c]) (by kernel_rfl) (by kernel_rfl) (by kernel_rfl) Try.call43 (clone_any sb1 so1 (lenF bs n) c _ (bs.take (lenF bs n)) _ (by simp only [List.length_take, List.length_drop]; omega) hsl5 (by first | exact Nat.le_refl _ | omega) (by omega) (by omega)) ?_ ?_
         ·rintro _ w12 ⟨A1, c1, rfl, hr2, hc5⟩
          exact Step.mono hc5 (by intro i hi; first | exact hi.elim | ((try simp only at hi ⊢); omega))
         rintro _ w12 ⟨A1, c1, rfl, hr2, hc5⟩
         have hzhc5 := (hc5).size
         replace hS := Step.trans hS hc5
         replace hA := hA.no hc5
         replace hsl1 := hsl1.no hc5
         replace hsl2 := hsl2.no hc5
         replace ho1 := ho1.no hc5
         replace hsl3 := hsl3.no hc5
         replace hsl4 := hsl4.no hc5
         replace hsl5 := hsl5.no hc5
         obtain ⟨base1, hbase1E⟩ : ∃ x, x = w11.heap.size := ⟨_, rfl⟩
         rw [← hbase1E] at hr2
         have hbase1 : base1 ≤ w12.heap.size := by rw [hbase1E]; exact hc5.size
         refine VT_pures 1 (kn' := [(7, .slice A1 (lenF bs n) c1), (3, .slice A1 (lenF bs n) c1), (6, .int .u8 (((bs.drop (n - 8)).take (n - (n - 8))).getD 0 0)), (5, .pointer (some ⟨sb1, so3, none⟩)), (4, .slice (some ⟨sb1, so3, none⟩) (n - (n - 8)) (c - (n - 8))), (2, .slice (some ⟨sb1, so1, none⟩) (lenF bs n) c), (1, .int .i64 ((lenF bs n : Nat) : Int)), (0, .slice (some ⟨sb1, so1, none⟩) n c)]) (by kernel_rfl) ?_
         refine VT_end ?_
         intro w13 hs7
         replace hS := Step.trans hS hs7
         replace hA := hA.no hs7
         replace hsl1 := hsl1.no hs7
         replace hsl2 := hsl2.no hs7
         replace ho1 := ho1.no hs7
         replace hsl3 := hsl3.no hs7
         replace hsl4 := hsl4.no hs7
         replace hsl5 := hsl5.no hs7
         replace hbase1 := Nat.le_trans hbase1 (hs7).size
         replace hr2 := hr2.no hs7
         refine VL_keep [71, 2] [(71, .int .u8 (((bs.drop (n - 8)).take (n - (n - 8))).getD 0 0)), (2, .slice A1 (lenF bs n) c1)] (by kernel_rfl) ?_
         refine VL_pure 10 [2, 3, 4] [(2, .slice A1 (lenF bs n) c1), (3, .int .u8 (((bs.drop (n - 8)).take (n - (n - 8))).getD 0 0)), (4, .int .i64 0)] (by kernel_rfl) rfl ?_
         refine VL_end (by kernel_rfl) ?_
         refine VQ_next ?_
         refine VC_ret ?_
         refine VQ_ret3 (.slice A1 (lenF bs n) c1) (.int .u8 (((bs.drop (n - 8)).take (n - (n - 8))).getD 0 0)) (.int .i64 0) (.inr rfl) rfl rfl rfl rfl ?_
         obtain ⟨e0, e1, e2⟩ := un_0 hn (by omega) (by omega) ‹_› ‹_› (by omega) (by omega) ‹_› (by omega)
         have hl9 := Rw.lenI hr2
         exact ⟨_, _, by rw [e0, e1, e2, hl9]; rfl, by rw [e1, hl9]; exact Rw.low hr2 (by omega), hS⟩

end Go.Proofs.Ytejpcmjokamdcaa
end

section
/- Layer 10 in plain Lean, the document's. -/
set_option linter.unusedVariables false
set_option linter.unusedSimpArgs false
namespace Go.Proofs.Ytejpcmjokamdcaa
open Go.Vc
def rsumL (bs : List Int) : List Int := [IntKind.wrap .u8 (IntKind.wrap .u32 ((rlongB bs).tdiv 16777216)), IntKind.wrap .u8 ((IntKind.wrap .u32 ((rlongB bs).tdiv 65536)).tmod 256), IntKind.wrap .u8 ((IntKind.wrap .u32 ((rlongB bs).tdiv 256)).tmod 256), IntKind.wrap .u8 ((rlongB bs).tmod 256)]
def rlenB (n : Nat) : List Int := [IntKind.wrap .u8 ((n / 256 : Nat) : Int), IntKind.wrap .u8 ((n % 256 : Nat) : Int)]
def rheadF (bs : List Int) (m : Int) : List Int := padF bs ++ (m :: 0 :: rlenB bs.length)
def rframeF (bs : List Int) (m : Int) : List Int := rheadF bs m ++ rsumL (rheadF bs m)
def rlenF (bs : List Int) (n : Nat) : Nat := (bs.getD (n - 6) 0 * 256 + bs.getD (n - 5) 0).toNat
theorem rlenF_lt {bs : List Int} {n : Nat} (hb : Bytes bs) : rlenF bs n < 65536 := by
  have h2 := hb.get (n - 6)
  have h3 := hb.get (n - 5)
  unfold rlenF
  omega
theorem rlenF_eq {bs : List Int} {n : Nat} (hb : Bytes bs) : IntKind.wrap .i64 (IntKind.wrap .i64 (IntKind.wrap .i64 (bs.getD (n - 6) 0) * 256) + IntKind.wrap .i64 (bs.getD (n - 5) 0)) = ((rlenF bs n : Nat) : Int) := by
  have h2 := hb.get (n - 6)
  have h3 := hb.get (n - 5)
  rw [wrap_i64 (bs.getD (n - 6) 0) (by omega) (by omega), wrap_i64 (bs.getD (n - 5) 0) (by omega) (by omega), wrap_i64 (bs.getD (n - 6) 0 * 256) (by omega) (by omega), wrap_i64 _ (by omega) (by omega)]
  unfold rlenF
  omega
open Classical in
noncomputable def runE (bs : List Int) : Int :=
  let n := bs.length
  if n = 0 ∨ n % 48 ≠ 0 then 5 else if (bs.drop (n - 4)).take (n - (n - 4)) ≠ rsumL (bs.take (n - 4)) then 4
  else if bs.getD (n - 7) 0 ≠ 0 ∨ rlenF bs n = 0 ∨ n - 8 < rlenF bs n ∨ 47 < n - 8 - rlenF bs n then 5
  else if ∃ k, rlenF bs n ≤ k ∧ k < n - 8 ∧ bs.getD k 0 ≠ 0 then 5 else if 1000 < rlenF bs n then 6 else 0
noncomputable def runT (bs : List Int) : List Int := if runE bs = 0 then bs.take (rlenF bs bs.length) else []
noncomputable def runM (bs : List Int) : Int := if runE bs = 0 then bs.getD (bs.length - 8) 0 else 0
theorem run_err {bs : List Int} {e : Int} (h : runE bs = e) (he : e ≠ 0) : runT bs = [] ∧ runM bs = 0 := by
  unfold runT runM
  rw [h, if_neg he, if_neg he]; exact ⟨rfl, rfl⟩
theorem run_5a {bs : List Int} (h : bs.length = 0 ∨ bs.length % 48 ≠ 0) : runE bs = 5 := by unfold runE; rw [if_pos h]
theorem run_4 {bs : List Int} {n : Nat} (hn : bs.length = n) (h0 : n ≠ 0) (h1 : n % 48 = 0) (h2 : (bs.drop (n - 4)).take (n - (n - 4)) ≠ rsumL (bs.take (n - 4))) : runE bs = 4 := by
  subst hn; unfold runE; rw [if_neg (by omega), if_pos h2]
theorem run_5b {bs : List Int} {n : Nat} (hn : bs.length = n) (h0 : n ≠ 0) (h1 : n % 48 = 0) (h2 : (bs.drop (n - 4)).take (n - (n - 4)) = rsumL (bs.take (n - 4))) (h3 : bs.getD (n - 7) 0 ≠ 0 ∨ rlenF bs n = 0 ∨ n - 8 < rlenF bs n ∨ 47 < n - 8 - rlenF bs n) : runE bs = 5 := by
  subst hn; unfold runE; rw [if_neg (by omega), if_neg (by simp [h2]), if_pos h3]
theorem run_5c {bs : List Int} {n k : Nat} (hn : bs.length = n) (h0 : n ≠ 0) (h1 : n % 48 = 0) (h2 : (bs.drop (n - 4)).take (n - (n - 4)) = rsumL (bs.take (n - 4))) (h3 : bs.getD (n - 7) 0 = 0) (h4 : rlenF bs n ≠ 0) (h5 : rlenF bs n ≤ n - 8) (h6 : n - 8 - rlenF bs n ≤ 47) (h7 : rlenF bs n ≤ k) (h8 : k < n - 8) (h9 : bs.getD k 0 ≠ 0) : runE bs = 5 := by
  subst hn; unfold runE; rw [if_neg (by omega), if_neg (by simp [h2]), if_neg (by rintro (h | h | h); exact h h3; exact h4 h; omega), if_pos ⟨k, h7, h8, h9⟩]
theorem run_6 {bs : List Int} {n : Nat} (hn : bs.length = n) (h0 : n ≠ 0) (h1 : n % 48 = 0) (h2 : (bs.drop (n - 4)).take (n - (n - 4)) = rsumL (bs.take (n - 4))) (h3 : bs.getD (n - 7) 0 = 0) (h4 : rlenF bs n ≠ 0) (h5 : rlenF bs n ≤ n - 8) (h6 : n - 8 - rlenF bs n ≤ 47) (h7 : ∀ k, rlenF bs n ≤ k → k < n - 8 → bs.getD k 0 = 0) (h8 : 1000 < rlenF bs n) : runE bs = 6 := by
  subst hn; unfold runE; rw [if_neg (by omega), if_neg (by simp [h2]), if_neg (by rintro (h | h | h); exact h h3; exact h4 h; omega), if_neg (by rintro ⟨k, a, b, c⟩; exact c (h7 k a b)), if_pos h8]
theorem run_0 {bs : List Int} {n : Nat} (hn : bs.length = n) (h0 : n ≠ 0) (h1 : n % 48 = 0) (h2 : (bs.drop (n - 4)).take (n - (n - 4)) = rsumL (bs.take (n - 4))) (h3 : bs.getD (n - 7) 0 = 0) (h4 : rlenF bs n ≠ 0) (h5 : rlenF bs n ≤ n - 8) (h6 : n - 8 - rlenF bs n ≤ 47) (h7 : ∀ k, rlenF bs n ≤ k → k < n - 8 → bs.getD k 0 = 0) (h8 : ¬ 1000 < rlenF bs n) : runE bs = 0 ∧ runT bs = bs.take (rlenF bs n) ∧ runM bs = bs.getD (n - 8) 0 := by
  subst hn
  have : runE bs = 0 := by unfold runE; rw [if_neg (by omega), if_neg (by simp [h2]), if_neg (by rintro (h | h | h); exact h h3; exact h4 h; omega), if_neg (by rintro ⟨k, a, b, c⟩; exact c (h7 k a b)), if_neg h8]
  exact ⟨this, by unfold runT; rw [if_pos this], by unfold runM; rw [if_pos this]⟩
end Go.Proofs.Ytejpcmjokamdcaa
end

section
/- Layer 10 in plain Lean: both sides are one. -/
set_option linter.unusedVariables false
set_option linter.unusedSimpArgs false
namespace Go.Proofs.Ytejpcmjokamdcaa
open Go.Vc
theorem flipF_get {xs : List Int} : ∀ i, i ≤ xs.length → ∀ m, m < xs.length → (flipF xs i).getD m 0 = if m < i then IntKind.wrap .i64 (1 - xs.getD m 0) else xs.getD m 0
  | 0, _, m, _ => by rw [flipF, if_neg (by omega)]
  | i + 1, hi, m, hm => by
    have ih := flipF_get (xs := xs) i (by omega)
    rw [flipF, getD_set (flipF xs i) i m _ (by rw [flipF_len]; omega)]
    by_cases h : m = i
    · subst h
      rw [if_pos rfl, ih m hm, if_neg (Nat.lt_irrefl m), if_pos (Nat.lt_succ_self m)]
    · rw [if_neg h, ih m hm]
      by_cases h2 : m < i
      · rw [if_pos h2, if_pos (show m < i + 1 by omega)]
      · rw [if_neg h2, if_neg (show ¬ m < i + 1 by omega)]
theorem b2i_not (p : Bool) : IntKind.wrap .i64 (1 - b2i p) = b2i (!p) := by cases p <;> rfl
def crcL (bs : List Int) : Nat := (bitsL bs).foldl (stepN 32 79764919) 4294967295
theorem crcL_lt (bs : List Int) : crcL bs < 4294967296 := (fold_N (d := 32) (g := 79764919) (by decide) (by decide) (by decide) (bitsL bs) 4294967295 (by decide)).2
theorem longB_crc (bs : List Int) : longB bs = bXor .u32 4294967295 ((crcL bs : Nat) : Int) := by
  have h := (fold_N (d := 32) (g := 79764919) (by decide) (by decide) (by decide) (bitsL bs) 4294967295 (by decide)).1
  unfold longB restB crcL
  rw [← h]; rfl
theorem restT_crc {bs : List Int} (hb : Bytes bs) : restT 79764919 32 (rbitsL bs) = ((crcL bs : Nat) : Int) := by
  rw [rbitsL_eq hb]
  unfold restT
  rw [List.length_map]
  refine rest_reg (d := 32) (g := 79764919) (by decide) (by decide) (by decide) (r0 := 4294967295) (by decide) (bitsL bs) _ (by rw [flipF_len]; simp) fun m hm => ?_
  generalize bitsL bs = l at *
  have hlen : (l.map b2i ++ List.replicate 32 (0 : Int)).length = l.length + 32 := by simp
  rw [flipF_get 32 (by omega) m (by omega)]
  have hx : (l.map b2i ++ List.replicate 32 (0 : Int)).getD m 0 = b2i (l.getD m false) := by
    simp only [List.getD]
    by_cases h : m < l.length
    · rw [List.getElem?_append_left (by simpa using h), List.getElem?_map, List.getElem?_eq_getElem h]; rfl
    · rw [List.getElem?_append_right (by simpa using Nat.le_of_not_lt h), List.getElem?_eq_none (show l.length ≤ m by omega), List.getElem?_replicate, List.length_map]
      rw [if_pos (by omega)]; rfl
  rw [hx]
  by_cases h : m < 32
  · rw [if_pos h, b2i_not, decide_eq_true h, Bool.true_and]
    have hones : ∀ j : Fin 32, (4294967295 : Nat).testBit j.val = true := by decide
    have := hones ⟨32 - 1 - m, by omega⟩
    rw [this]; simp
  · rw [if_neg h, decide_eq_false h]; simp
theorem long_eq {bs : List Int} (hb : Bytes bs) : longB bs = rlongB bs := by
  unfold rlongB
  rw [longB_crc, restT_crc hb, wrap_u32, Nat.mod_eq_of_lt (crcL_lt bs)]
theorem longB_nat (bs : List Int) : ∃ c : Nat, c < 4294967296 ∧ longB bs = (c : Int) := by
  rw [longB_crc, show (4294967295 : Int) = ((4294967295 : Nat) : Int) from rfl, bXor_u32' _ _ (by decide) (crcL_lt bs)]
  exact ⟨_, Nat.xor_lt_two_pow (n := 32) (by decide) (crcL_lt bs), rfl⟩
theorem sum_eq {bs : List Int} (hb : Bytes bs) : sumL bs = rsumL bs := by
  obtain ⟨c, hc, h⟩ := longB_nat bs
  unfold sumL rsumL
  rw [← long_eq hb, h]
  rw [fdiv_nat, fdiv_nat, fdiv_nat, show (16777216 : Int) = ((2 ^ 24 : Nat) : Int) from rfl, show (65536 : Int) = ((2 ^ 16 : Nat) : Int) from rfl, show (256 : Int) = ((2 ^ 8 : Nat) : Int) from rfl, tdiv_nat, tdiv_nat, tdiv_nat, wrap_u32, wrap_u32, wrap_u32, Nat.mod_eq_of_lt (show c / 2 ^ 24 < 2 ^ 32 by omega), Nat.mod_eq_of_lt (show c / 2 ^ 16 < 2 ^ 32 by omega), Nat.mod_eq_of_lt (show c / 2 ^ 8 < 2 ^ 32 by omega), tmod_nat, tmod_nat, tmod_nat]
  simp only [wrap_u8, Nat.mod_mod]
theorem len_eq (n : Nat) : lenB n = rlenB n := by
  unfold lenB rlenB
  rw [fdiv_nat]
  simp only [wrap_u8]
  rw [show n / 2 ^ 8 = n / 256 from rfl, show n % 256 % 2 ^ 8 = n % 2 ^ 8 by omega]
theorem pad_bytes {bs : List Int} (hb : Bytes bs) : Bytes (padF bs) := by
  intro x hx
  rcases List.mem_append.1 hx with hx | hx
  · exact hb x hx
  · rw [(List.mem_replicate.1 hx).2]; omega
theorem head_bytes {bs : List Int} {m : Int} (hb : Bytes bs) (hm : 0 ≤ m ∧ m < 256) : Bytes (headF bs m) := by
  intro x hx
  rcases List.mem_append.1 hx with hx | hx
  · exact pad_bytes hb x hx
  · simp only [lenB, List.mem_cons, List.mem_nil_iff, or_false] at hx
    rcases hx with rfl | rfl | rfl | rfl
    · exact hm
    · omega
    · exact byte_wrap _
    · exact byte_wrap _
theorem frame_bytes {bs : List Int} {m : Int} (hb : Bytes bs) (hm : 0 ≤ m ∧ m < 256) : Bytes (frameF bs m) := (head_bytes hb hm).app (sumL_bytes _)
theorem frame_eq {bs : List Int} {m : Int} (hb : Bytes bs) (hm : 0 ≤ m ∧ m < 256) : frameF bs m = rframeF bs m := by
  have hh : headF bs m = rheadF bs m := by unfold headF rheadF; rw [len_eq]
  unfold frameF rframeF
  rw [← hh, sum_eq (head_bytes hb hm)]
theorem tail_get {bs : List Int} {n j : Nat} (h8 : 8 ≤ n) (hj : j < 8) : (tailF bs n).getD j 0 = bs.getD (n - 8 + j) 0 := by
  unfold tailF
  simp only [List.getD, List.getElem?_take, if_pos (show j < n - (n - 8) by omega), List.getElem?_drop]
theorem lenF_r {bs : List Int} {n : Nat} (h8 : 8 ≤ n) : lenF bs n = rlenF bs n := by
  unfold lenF rlenF
  rw [tail_get h8 (by omega), tail_get h8 (by omega), show n - 8 + 2 = n - 6 by omega, show n - 8 + 3 = n - 5 by omega]
theorem mid_any {bs : List Int} {n : Nat} (hn : bs.length = n) : (midF bs n).any (fun x => x != 0) = true ↔ ∃ k, lenF bs n ≤ k ∧ k < n - 8 ∧ bs.getD k 0 ≠ 0 := by
  unfold midF
  rw [List.any_eq_true]
  constructor
  · rintro ⟨x, hx, hne⟩
    obtain ⟨i, hi, rfl⟩ := List.getElem_of_mem hx
    simp at hi
    refine ⟨lenF bs n + i, by omega, by omega, ?_⟩
    rw [List.getElem_take, List.getElem_drop] at hne
    rw [List.getD, List.getElem?_eq_getElem (by omega)]
    simpa using hne
  · rintro ⟨k, h1, h2, h3⟩
    refine ⟨bs.getD k 0, ?_, by simpa using h3⟩
    rw [List.mem_iff_getElem?]
    refine ⟨k - lenF bs n, ?_⟩
    rw [List.getElem?_take, if_pos (by omega), List.getElem?_drop, show lenF bs n + (k - lenF bs n) = k by omega, List.getD, List.getElem?_eq_getElem (by omega)]
    rfl
theorem many_iff {L n : Nat} (hL : L ≠ 0) (hn : n % 48 = 0) : manyN L * 48 ≠ n ↔ (n - 8 < L ∨ 47 < n - 8 - L) := by
  have h := (many_le L).2 (by omega)
  constructor
  · intro h1
    omega
  · intro h1 h2
    omega
theorem un_eq {bs : List Int} (hb : Bytes bs) : unE bs = runE bs ∧ unT bs = runT bs ∧ unM bs = runM bs := by
  have hE : unE bs = runE bs := by
    unfold unE runE
    dsimp only
    by_cases h1 : bs.length = 0 ∨ bs.length % 48 ≠ 0
    · rw [if_pos h1, if_pos h1]
    · rw [if_neg h1, if_neg h1, ← sum_eq (hb.take (bs.length - 4))]
      by_cases h2 : (bs.drop (bs.length - 4)).take (bs.length - (bs.length - 4)) ≠ sumL (bs.take (bs.length - 4))
      · rw [if_pos h2, if_pos h2]
      · rw [if_neg h2, if_neg h2, tail_get (by omega) (by omega), show bs.length - 8 + 1 = bs.length - 7 by omega, lenF_r (show 8 ≤ bs.length by omega)]
        have h3 : (bs.getD (bs.length - 7) 0 ≠ 0 ∨ rlenF bs bs.length = 0 ∨ manyN (rlenF bs bs.length) * 48 ≠ bs.length) ↔ (bs.getD (bs.length - 7) 0 ≠ 0 ∨ rlenF bs bs.length = 0 ∨ bs.length - 8 < rlenF bs bs.length ∨ 47 < bs.length - 8 - rlenF bs bs.length) := by
          by_cases hL : rlenF bs bs.length = 0
          · simp [hL]
          · rw [many_iff hL (by omega)]
        by_cases h4 : bs.getD (bs.length - 7) 0 ≠ 0 ∨ rlenF bs bs.length = 0 ∨ bs.length - 8 < rlenF bs bs.length ∨ 47 < bs.length - 8 - rlenF bs bs.length
        · rw [if_pos (h3.2 h4), if_pos h4]
        · rw [if_neg (fun h => h4 (h3.1 h)), if_neg h4]
          have h5 := mid_any (bs := bs) rfl
          rw [lenF_r (show 8 ≤ bs.length by omega)] at h5
          by_cases h6 : ∃ k, rlenF bs bs.length ≤ k ∧ k < bs.length - 8 ∧ bs.getD k 0 ≠ 0
          · rw [if_pos (h5.2 h6), if_pos h6]
          · rw [if_neg (fun h => h6 (h5.1 h)), if_neg h6]
  refine ⟨hE, ?_, ?_⟩
  · unfold unT runT
    rw [hE]
    by_cases h0 : runE bs = 0
    · have h8 : 8 ≤ bs.length := by
        by_cases h : bs.length = 0 ∨ bs.length % 48 ≠ 0
        · rw [run_5a h] at h0; omega
        · omega
      rw [if_pos h0, if_pos h0, lenF_r h8]
    · rw [if_neg h0, if_neg h0]
  · unfold unM runM
    rw [hE]
    by_cases h0 : runE bs = 0
    · have h8 : 8 ≤ bs.length := by
        by_cases h : bs.length = 0 ∨ bs.length % 48 ≠ 0
        · rw [run_5a h] at h0; omega
        · omega
      rw [if_pos h0, if_pos h0, tail_get h8 (by omega), Nat.add_zero]
    · rw [if_neg h0, if_neg h0]

/-! ### What is packed is unpacked -/
theorem frame_un {bs : List Int} {m : Int} (h0 : 0 < bs.length) (h1 : bs.length ≤ 1000) (hb : Bytes bs) (hm : 0 ≤ m ∧ m < 256) : unE (frameF bs m) = 0 ∧ unT (frameF bs m) = bs ∧ unM (frameF bs m) = m := by
  have hmn := (many_le bs.length).2 h0
  obtain ⟨n, hn⟩ : ∃ n, n = 48 * manyN bs.length := ⟨_, rfl⟩
  have hl : (frameF bs m).length = n := by rw [frameF_len h0, hn]
  have hh : (headF bs m).length = n - 4 := by rw [headF_len h0, hn]
  have hp : (padF bs).length = n - 8 := by rw [padF_len h0, hn]
  have hd : (frameF bs m).drop (n - 4) = sumL (headF bs m) := by unfold frameF; rw [List.drop_append, hh, Nat.sub_self, List.drop_of_length_le (by omega)]; simp
  have ht : (frameF bs m).take (n - 4) = headF bs m := by unfold frameF; rw [List.take_append, hh, Nat.sub_self, List.take_of_length_le (by omega)]; simp
  have htail : ∀ j, j < 4 → (frameF bs m).getD (n - 8 + j) 0 = (m :: 0 :: lenB bs.length).getD j 0 := by
    intro j hj
    unfold frameF headF
    rw [List.append_assoc]
    simp only [List.getD]
    rw [List.getElem?_append_right (by omega), hp, Nat.add_sub_cancel_left, List.getElem?_append_left (by simp [lenB]; omega)]
  have hlen : lenF (frameF bs m) n = bs.length := by
    rw [lenF_r (by omega)]
    unfold rlenF
    rw [show n - 6 = n - 8 + 2 by omega, show n - 5 = n - 8 + 3 by omega, htail 2 (by omega), htail 3 (by omega), len_eq]
    show (IntKind.wrap .u8 ((bs.length / 256 : Nat) : Int) * 256 + IntKind.wrap .u8 ((bs.length % 256 : Nat) : Int)).toNat = _
    rw [wrap_u8, wrap_u8]
    omega
  have hpad : ∀ k, bs.length ≤ k → k < n - 8 → (frameF bs m).getD k 0 = 0 := by
    intro k h1 h2
    unfold frameF headF padF
    simp only [List.getD]
    rw [List.append_assoc, List.append_assoc, List.getElem?_append_right (by omega), List.getElem?_append_left (by simp; omega), List.getElem?_replicate, if_pos (by omega)]
    rfl
  have hmid : (midF (frameF bs m) n).any (fun x => x != 0) = false := by
    cases h : (midF (frameF bs m) n).any (fun x => x != 0)
    · rfl
    · obtain ⟨k, h1, h2, h3⟩ := (mid_any hl).1 h
      rw [hlen] at h1
      exact absurd (hpad k h1 h2) h3
  obtain ⟨e0, e1, e2⟩ := un_0 hl (by omega) (by omega) (by rw [hd, ht, List.take_of_length_le (by simp [sumL]; omega)]) (by rw [tail_get (by omega) (by omega), htail 1 (by omega)]; rfl) (by rw [hlen]; omega) (by rw [hlen, hn]; omega) hmid (by rw [hlen]; omega)
  refine ⟨e0, ?_, ?_⟩
  · rw [e1, hlen]
    unfold frameF headF padF
    rw [List.append_assoc, List.append_assoc, List.take_append_of_le_length (Nat.le_refl _), List.take_length]
  · rw [e2, tail_get (by omega) (by omega), htail 0 (by omega)]; rfl
end Go.Proofs.Ytejpcmjokamdcaa
end

section
/- Layer 10: contracts as the laws use them. -/
set_option linter.unusedVariables false
set_option linter.unusedSimpArgs false
namespace Go.Proofs.Ytejpcmjokamdcaa
open Go.Vc
theorem unT_le (bs : List Int) : (unT bs).length ≤ bs.length := by
  unfold unT
  split
  · simp; omega
  · simp
/-- A frame is unpacked. -/
theorem unpack_frame (A : Option Addr) (n c Bd : Nat) (ts : List Int) (m : Int) (N : Nat) (w : World) (hn : (frameF ts m).length = n) (hA : Sl w Bd A (iL .u8 (frameF ts m))) (hN : ts.length = N) (h0 : 0 < N) (h1 : N ≤ 1000) (hb : Bytes ts) (hm : 0 ≤ m ∧ m < 256) (hBd : Bd ≤ w.heap.size) (hlen : n ≤ 10000) (hc : n ≤ c) :
    CV Try.prog 22 #[.slice A n c] w (fun x w1 => ∃ A' c', x = .tuple #[.slice A' N c', .int .u8 m, .int .i64 0] ∧ Rw w1 w.heap.size 5 A' N c' (iL .u8 ts) ∧ Step No w w1) := by
  obtain ⟨e0, e1, e2⟩ := frame_un (m := m) (show 0 < ts.length by omega) (by omega) hb hm
  refine CV.mono (unpack_any A n c Bd (frameF ts m) w hn hA (frame_bytes hb hm) hBd hlen hc) ?_
  rintro x w1 ⟨A', c', rfl, hr, hs⟩
  rw [e1, hN] at hr
  exact ⟨A', c', by rw [e0, e1, e2, hN], hr, hs⟩
end Go.Proofs.Ytejpcmjokamdcaa
end

section
/- Layer 10 in plain Lean: a frame's shape, and how many parts it has. -/
set_option linter.unusedVariables false
set_option linter.unusedSimpArgs false
namespace Go.Proofs.Ytejpcmjokamdcaa
open Go.Vc
theorem frame_split {bs : List Int} (m : Int) : ∃ r, frameF bs m = bs ++ r := ⟨_, by unfold frameF headF padF; rw [List.append_assoc, List.append_assoc]⟩
theorem frame_take {bs : List Int} {n : Nat} (m : Int) (hn : bs.length = n) : (frameF bs m).take n = bs := by
  obtain ⟨r, h⟩ := frame_split (bs := bs) m
  rw [h, ← hn, List.take_left']; rfl
theorem frame_take' {bs : List Int} {n : Nat} (m : Int) (hn : bs.length = n) : (((frameF bs m).take n) == bs) = true := by rw [frame_take m hn]; simp
theorem frame_mark {bs : List Int} {n : Nat} {m : Int} (hn : bs.length = n) (h0 : 0 < n) : (frameF bs m).getD (48 * manyN n - 8) 0 = m := by
  subst hn
  have hl := padF_len h0
  unfold frameF headF
  rw [List.append_assoc, List.getD, List.getElem?_append_right (by omega), hl, Nat.sub_self]
  rfl
theorem frame_pad {bs : List Int} {n i : Nat} {m : Int} (hn : bs.length = n) (h0 : 0 < n) (h1 : n ≤ i) (h2 : i < 48 * manyN n - 8) : (frameF bs m).getD i 0 = 0 := by
  subst hn
  have hl := padF_len h0
  unfold frameF headF
  rw [List.append_assoc, List.getD, List.getElem?_append_left (by omega)]
  unfold padF
  rw [List.getElem?_append_right h1, List.getElem?_replicate, if_pos (by omega)]
  rfl
theorem many_mono (n : Nat) : manyN n ≤ manyN (n + 1) := by
  unfold manyN
  by_cases h : n = 0
  · rw [if_pos h]; omega
  · rw [if_neg h, if_neg (by omega)]; omega
theorem many_48 {n : Nat} (h : 1 ≤ n) : manyN (n + 48) = manyN n + 1 := by
  unfold manyN
  rw [if_neg (by omega), if_neg (by omega)]; omega
/-- What ends with its check is not told to be wrong by it. -/
theorem un_sealed {xs bs : List Int} (h : bs = xs ++ sumL xs) : unE bs ≠ 4 := by
  have hs : (sumL xs).length = 4 := rfl
  have hl : bs.length = xs.length + 4 := by rw [h, List.length_append, hs]
  have e1 : bs.take (bs.length - 4) = xs := by rw [hl, h, show xs.length + 4 - 4 = xs.length by omega, List.take_left']; rfl
  have e2 : (bs.drop (bs.length - 4)).take (bs.length - (bs.length - 4)) = sumL xs := by
    rw [hl, h, show xs.length + 4 - 4 = xs.length by omega, List.drop_left', show xs.length + 4 - xs.length = 4 by omega, ← hs, List.take_length]; rfl
  unfold unE
  dsimp only
  rw [e1, e2]
  split
  · decide
  · rw [if_neg (by simp)]
    repeat' split
    all_goals decide
end Go.Proofs.Ytejpcmjokamdcaa
end

section
/- Registers: bursts are told. -/
set_option linter.unusedVariables false
set_option linter.unusedSimpArgs false
namespace Go.Proofs.Ytejpcmjokamdcaa
open Go.Vc
theorem stepN_0 {d g r : Nat} {b : Bool} (hd : 1 ≤ d) (hg : g.testBit 0 = true) : (stepN d g r b).testBit 0 = (b ^^ r.testBit (d - 1)) := by
  have := stepN_bit (g := g) (r := r) (bit := b) hd (d - 1) (by omega)
  rw [Nat.sub_self, hg, Bool.and_true, decide_eq_false (by omega), Bool.false_and, Bool.false_xor] at this
  exact this
theorem agree_step {d g r r' s : Nat} {b b' : Bool} (hd : 1 ≤ d) (hg : g.testBit 0 = true) (h1 : 1 ≤ s) (hs : s ≤ d) (h : ∀ i, i < s → (stepN d g r b).testBit i = (stepN d g r' b').testBit i) :
    (∀ i, i < s - 1 → r.testBit i = r'.testBit i) ∧ (b ^^ r.testBit (d - 1)) = (b' ^^ r'.testBit (d - 1)) := by
  have h0 : (b ^^ r.testBit (d - 1)) = (b' ^^ r'.testBit (d - 1)) := by
    rw [← stepN_0 (r := r) (b := b) hd hg, ← stepN_0 (r := r') (b := b') hd hg]
    exact h 0 (by omega)
  refine ⟨fun i hi => ?_, h0⟩
  have e1 := stepN_bit (g := g) (r := r) (bit := b) hd (d - 1 - (i + 1)) (by omega)
  have e2 := stepN_bit (g := g) (r := r') (bit := b') hd (d - 1 - (i + 1)) (by omega)
  rw [show d - 1 - (d - 1 - (i + 1)) = i + 1 by omega, show d - 1 - (d - 1 - (i + 1) + 1) = i by omega, decide_eq_true (by omega), Bool.true_and] at e1 e2
  rw [h (i + 1) (by omega), e2, ← h0] at e1
  revert e1
  generalize ((b ^^ r.testBit (d - 1)) && g.testBit (i + 1)) = X
  cases X <;> cases r.testBit i <;> cases r'.testBit i <;> simp
theorem agree_fold {d g : Nat} (hd : 1 ≤ d) (hg : g.testBit 0 = true) : ∀ (l l' : List Bool), l.length = l'.length → ∀ r r' t : Nat, l.length ≤ t → t ≤ d →
    (∀ i, i < t → (l.foldl (stepN d g) r).testBit i = (l'.foldl (stepN d g) r').testBit i) → ∀ i, i < t - l.length → r.testBit i = r'.testBit i
  | [], [], _, r, r', t, _, _, h => fun i hi => h i hi
  | b :: l, b' :: l', hl, r, r', t, h1, h2, h => by
    have ih := agree_fold hd hg l l' (by simpa using hl) (stepN d g r b) (stepN d g r' b') t (by simp at h1; omega) h2 h
    simp only [List.length_cons] at h1 ⊢
    have := (agree_step (s := t - l.length) hd hg (by omega) (by omega) ih).1
    intro i hi
    exact this i (by omega)
  | [], _ :: _, hl, _, _, _, _, _, _ => by simp at hl
  | _ :: _, [], hl, _, _, _, _, _, _ => by simp at hl
theorem burst_eq {d g : Nat} (hd : 1 ≤ d) (hg : g.testBit 0 = true) : ∀ (l l' : List Bool), l.length = l'.length → l.length ≤ d → ∀ r : Nat, l.foldl (stepN d g) r = l'.foldl (stepN d g) r → l = l'
  | [], [], _, _, _, _ => rfl
  | b :: l, b' :: l', hl, hld, r, h => by
    have hl2 : l.length = l'.length := by simpa using hl
    simp only [List.length_cons] at hld
    rw [List.foldl_cons, List.foldl_cons] at h
    have := agree_fold hd hg l l' hl2 (stepN d g r b) (stepN d g r b') d (by omega) (Nat.le_refl _) (fun i _ => by rw [h]) 0 (by omega)
    rw [stepN_0 hd hg, stepN_0 hd hg] at this
    have hb : b = b' := by revert this; cases b <;> cases b' <;> cases r.testBit (d - 1) <;> simp
    subst hb
    rw [burst_eq hd hg l l' hl2 (by omega) (stepN d g r b) h]
  | [], _ :: _, hl, _, _, _ => by simp at hl
  | _ :: _, [], hl, _, _, _ => by simp at hl
theorem fold_ne {d g : Nat} (hd : 1 ≤ d) (hg : g.testBit 0 = true) (hg2 : g < 2 ^ d) : ∀ (l : List Bool) (r r' : Nat), r < 2 ^ d → r' < 2 ^ d → r ≠ r' → l.foldl (stepN d g) r ≠ l.foldl (stepN d g) r'
  | [], _, _, _, _, h => h
  | b :: l, r, r', hr, hr', h => fold_ne hd hg hg2 l _ _ (stepN_lt hg2) (stepN_lt hg2) fun e => h (by
      have hs := agree_step (s := d) (r := r) (r' := r') (b := b) (b' := b) hd hg hd (Nat.le_refl _) (fun i _ => by rw [e])
      apply Nat.eq_of_testBit_eq
      intro i
      by_cases hi : i < d - 1
      · exact hs.1 i hi
      · by_cases hi2 : i = d - 1
        · have := hs.2
          rw [hi2]
          revert this
          cases b <;> simp
        · rw [Nat.testBit_lt_two_pow (Nat.lt_of_lt_of_le hr (Nat.pow_le_pow_right (by omega) (by omega))), Nat.testBit_lt_two_pow (Nat.lt_of_lt_of_le hr' (Nat.pow_le_pow_right (by omega) (by omega)))])
theorem fold_lt {d g : Nat} (hg2 : g < 2 ^ d) : ∀ (l : List Bool) (r : Nat), r < 2 ^ d → l.foldl (stepN d g) r < 2 ^ d
  | [], _, h => h
  | _ :: l, _, _ => fold_lt hg2 l _ (stepN_lt hg2)
/-- A run of at most d bits that is turned makes another register. -/
theorem burst_ne {d g r : Nat} (hd : 1 ≤ d) (hg : g.testBit 0 = true) (hg2 : g < 2 ^ d) (hr : r < 2 ^ d) (p u u' q : List Bool) (hl : u.length = u'.length) (hd2 : u.length ≤ d) (hne : u ≠ u') :
    (p ++ u ++ q).foldl (stepN d g) r ≠ (p ++ u' ++ q).foldl (stepN d g) r := by
  rw [List.foldl_append, List.foldl_append, List.foldl_append, List.foldl_append]
  exact fold_ne hd hg hg2 q _ _ (fold_lt hg2 u _ (fold_lt hg2 p r hr)) (fold_lt hg2 u' _ (fold_lt hg2 p r hr)) fun e => hne (burst_eq hd hg u u' hl hd2 _ e)
/-- Bits that differ as the registers do: behind them the registers are one. -/
theorem run_same {d g : Nat} (hd : 1 ≤ d) : ∀ (l l' : List Bool), l.length = l'.length → l.length ≤ d → ∀ r r' : Nat, (∀ i, i < l.length → (l.getD i false ^^ l'.getD i false) = (r.testBit (d - 1 - i) ^^ r'.testBit (d - 1 - i))) →
    ∀ j, j < d → ((l.foldl (stepN d g) r).testBit j ^^ (l'.foldl (stepN d g) r').testBit j) = (decide (l.length ≤ j) && (r.testBit (j - l.length) ^^ r'.testBit (j - l.length)))
  | [], [], _, _, r, r', _ => fun j _ => by simp
  | b :: l, b' :: l', hl, hld, r, r', h => by
    have hl2 : l.length = l'.length := by simpa using hl
    simp only [List.length_cons] at hld
    have h0 : (b ^^ b') = (r.testBit (d - 1) ^^ r'.testBit (d - 1)) := h 0 (by simp)
    have hs : ∀ j, j < d → ((stepN d g r b).testBit j ^^ (stepN d g r' b').testBit j) = (decide (1 ≤ j) && (r.testBit (j - 1) ^^ r'.testBit (j - 1))) := by
      intro j hj
      have e1 := stepN_bit (g := g) (r := r) (bit := b) hd (d - 1 - j) (by omega)
      have e2 := stepN_bit (g := g) (r := r') (bit := b') hd (d - 1 - j) (by omega)
      rw [show d - 1 - (d - 1 - j) = j by omega, show d - 1 - (d - 1 - j + 1) = j - 1 by omega, show decide (d - 1 - j + 1 < d) = decide (1 ≤ j) from decide_eq_decide.2 (by omega)] at e1 e2
      rw [e1, e2]
      revert h0
      generalize r.testBit (d - 1) = x, r'.testBit (d - 1) = x', r.testBit (j - 1) = y, r'.testBit (j - 1) = y', decide (1 ≤ j) = z, g.testBit j = v
      cases b <;> cases b' <;> cases x <;> cases x' <;> cases y <;> cases y' <;> cases z <;> cases v <;> decide
    have ih := run_same (g := g) hd l l' hl2 (by omega) (stepN d g r b) (stepN d g r' b') (fun i hi => by
      rw [hs (d - 1 - i) (by omega), decide_eq_true (by omega), Bool.true_and, show d - 1 - i - 1 = d - 1 - (i + 1) by omega]
      exact h (i + 1) (by simp; omega))
    intro j hj
    rw [List.foldl_cons, List.foldl_cons, ih j hj, List.length_cons]
    by_cases hlj : l.length ≤ j
    · rw [decide_eq_true hlj, Bool.true_and, hs (j - l.length) (by omega), show j - l.length - 1 = j - (l.length + 1) by omega, show decide (1 ≤ j - l.length) = decide (l.length + 1 ≤ j) from decide_eq_decide.2 (by omega)]
    · rw [decide_eq_false hlj, decide_eq_false (by omega), Bool.false_and, Bool.false_and]
  | [], _ :: _, hl, _, _, _, _ => by simp at hl
  | _ :: _, [], hl, _, _, _, _ => by simp at hl
theorem run_eq {d g : Nat} (hd : 1 ≤ d) (hg2 : g < 2 ^ d) (l l' : List Bool) (hl : l.length = d) (hl' : l'.length = d) (r r' : Nat) (hr : r < 2 ^ d) (hr' : r' < 2 ^ d) (h : ∀ i, i < d → (l.getD i false ^^ l'.getD i false) = (r.testBit (d - 1 - i) ^^ r'.testBit (d - 1 - i))) :
    l.foldl (stepN d g) r = l'.foldl (stepN d g) r' := by
  have hs := run_same (g := g) hd l l' (hl.trans hl'.symm) (by omega) r r' (fun i hi => h i (by omega))
  apply Nat.eq_of_testBit_eq
  intro j
  by_cases hj : j < d
  · have := hs j hj
    rw [hl, decide_eq_false (by omega), Bool.false_and] at this
    revert this
    generalize (l.foldl (stepN d g) r).testBit j = x, (l'.foldl (stepN d g) r').testBit j = y
    cases x <;> cases y <;> decide
  · rw [Nat.testBit_lt_two_pow (Nat.lt_of_lt_of_le (fold_lt hg2 l r hr) (Nat.pow_le_pow_right (by omega) (by omega))), Nat.testBit_lt_two_pow (Nat.lt_of_lt_of_le (fold_lt hg2 l' r' hr') (Nat.pow_le_pow_right (by omega) (by omega)))]
end Go.Proofs.Ytejpcmjokamdcaa
end

section
/- Layer 10 in plain Lean: a frame with a burst is told. -/
set_option linter.unusedVariables false
set_option linter.unusedSimpArgs false
namespace Go.Proofs.Ytejpcmjokamdcaa
open Go.Vc
theorem bits8_nat {a : Nat} (h : a < 2 ^ 8) : bits8 ((a : Nat) : Int) = (List.range 8).map fun i => a.testBit (7 - i) := bits8_fin ⟨a, h⟩
theorem sumL_byte (X : List Int) (k : Nat) (hk : k < 4) : (sumL X).getD k 0 = (((4294967295 ^^^ crcL X) / 2 ^ (24 - 8 * k) % 2 ^ 8 : Nat) : Int) := by
  have hx : longB X = ((4294967295 ^^^ crcL X : Nat) : Int) := by rw [longB_crc]; exact bXor_u32' 4294967295 _ (by decide) (crcL_lt X)
  unfold sumL
  rw [hx, fdiv_nat, fdiv_nat, fdiv_nat, wrap_u8, wrap_u8, wrap_u8, wrap_u8]
  rcases (show k = 0 ∨ k = 1 ∨ k = 2 ∨ k = 3 by omega) with rfl | rfl | rfl | rfl
  · rfl
  · rfl
  · rfl
  · rw [show 24 - 8 * 3 = 0 by rfl, Nat.pow_zero, Nat.div_one]; rfl
theorem sumL_bit (X : List Int) (i : Nat) (hi : i < 32) : (bitsL (sumL X)).getD i false = !(crcL X).testBit (31 - i) := by
  have e := flat8_get bits8 bits8_len (sumL X) (i / 8) (i % 8) (by show i / 8 < 4; omega) (Nat.mod_lt _ (by decide))
  rw [show 8 * (i / 8) + i % 8 = i by omega, sumL_byte X (i / 8) (by omega), bits8_nat (Nat.mod_lt _ (by decide)), List.getElem?_map, List.getElem?_range (Nat.mod_lt _ (by decide))] at e
  show ((sumL X).flatMap bits8)[i]?.getD false = _
  rw [e]
  simp only [Option.map_some, Option.getD_some]
  have hones : ∀ j : Fin 32, (4294967295 : Nat).testBit j.val = true := by decide
  have h1 := hones ⟨31 - i, by omega⟩
  simp only at h1
  rw [Nat.testBit_mod_two_pow, decide_eq_true (by omega), Bool.true_and, Nat.testBit_div_two_pow, show 7 - i % 8 + (24 - 8 * (i / 8)) = 31 - i by omega, Nat.testBit_xor, h1, Bool.true_xor]
def resK : Nat := (List.replicate 32 true).foldl (stepN 32 79764919) 0
/-- What ends with its check has one register. -/
theorem sealed_res (X : List Int) : (bitsL (X ++ sumL X)).foldl (stepN 32 79764919) 4294967295 = resK := by
  rw [show bitsL (X ++ sumL X) = bitsL X ++ bitsL (sumL X) from List.flatMap_append, List.foldl_append]
  refine run_eq (by decide) (by decide) _ _ (by rw [bitsL_len]; rfl) (by simp) _ _ (crcL_lt X) (by decide) fun i hi => ?_
  rw [sumL_bit X i hi]
  have : (List.replicate 32 true).getD i false = true := by rw [List.getD, List.getElem?_replicate, if_pos hi]; rfl
  rw [this]
  simp
  rfl
theorem un_not {O : List Int} (h0 : O.length ≠ 0) (h1 : O.length % 48 = 0) (h : ∀ X, O ≠ X ++ sumL X) : unE O = 4 := by
  unfold unE
  dsimp only
  rw [if_neg (by omega), if_pos]
  intro e
  refine h (O.take (O.length - 4)) ?_
  rw [← e]
  have : (O.drop (O.length - 4)).take (O.length - (O.length - 4)) = O.drop (O.length - 4) := List.take_of_length_le (by simp)
  rw [this, List.take_append_drop]
/-- A frame of which up to 32 bits in a row are turned is told to be wrong. -/
theorem un_burst {X O : List Int} (h0 : O.length ≠ 0) (h1 : O.length % 48 = 0) (p u u' q : List Bool) (hF : bitsL (X ++ sumL X) = p ++ u ++ q) (hO : bitsL O = p ++ u' ++ q) (hl : u.length = u'.length) (hd : u.length ≤ 32) (hne : u ≠ u') : unE O = 4 := by
  refine un_not h0 h1 fun Y e => ?_
  have e1 := sealed_res X
  have e2 := sealed_res Y
  rw [hF] at e1
  rw [← e, hO] at e2
  exact burst_ne (d := 32) (g := 79764919) (by decide) (by decide) (by decide) (by decide) p u u' q hl hd hne (e1.trans e2.symm)
/-- A list of bits of which some of the 32 behind the s-th one are turned. -/
theorem un_turned {X O : List Int} (h0 : O.length ≠ 0) (h1 : O.length % 48 = 0) (hlen : O.length = (X ++ sumL X).length) (s : Nat) (t : Nat → Bool) (ht : ∀ j, (bitsL O)[j]? = if (decide (s ≤ j) && (decide (j < s + 32) && t (j - s))) = true then (bitsL (X ++ sumL X))[j]?.map (fun b => !b) else (bitsL (X ++ sumL X))[j]?)
    (k : Nat) (hk : k < 32) (hkt : t k = true) (hks : s + k < 8 * O.length) : unE O = 4 := by
  have hlb : (bitsL O).length = (bitsL (X ++ sumL X)).length := by rw [bitsL_len, bitsL_len, hlen]
  generalize hF : bitsL (X ++ sumL X) = F at *
  have hsp : ∀ l : List Bool, l = l.take s ++ (l.drop s).take 32 ++ l.drop (s + 32) := by
    intro l
    rw [List.append_assoc, ← List.drop_drop, List.take_append_drop, List.take_append_drop]
  have hp : (bitsL O).take s = F.take s := by
    apply List.ext_getElem?
    intro j
    rw [List.getElem?_take, List.getElem?_take, ht j]
    by_cases hj : j < s
    · rw [if_pos hj, if_pos hj, if_neg (by simp; omega)]
    · rw [if_neg hj, if_neg hj]
  have hq : (bitsL O).drop (s + 32) = F.drop (s + 32) := by
    apply List.ext_getElem?
    intro j
    rw [List.getElem?_drop, List.getElem?_drop, ht, if_neg (by simp; omega)]
  refine un_burst h0 h1 (F.take s) ((F.drop s).take 32) (((bitsL O).drop s).take 32) (F.drop (s + 32)) (hF.trans (hsp F)) ?_ (by simp [hlb]) (by simp; omega) ?_
  · have := hsp (bitsL O)
    rwa [hp, hq] at this
  · intro e
    have e2 := congrArg (fun l : List Bool => l[k]?) e
    simp only [List.getElem?_take, if_pos hk, List.getElem?_drop] at e2
    rw [ht (s + k), if_pos (by simp [hk, hkt])] at e2
    have hlt : s + k < F.length := by rw [← hlb, bitsL_len]; exact hks
    rw [List.getElem?_eq_getElem hlt] at e2
    simp at e2
end Go.Proofs.Ytejpcmjokamdcaa
end
