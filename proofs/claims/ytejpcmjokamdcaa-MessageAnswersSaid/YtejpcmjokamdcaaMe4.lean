/- Layer 16: Cause, both sides; awake. -/
import Derived.Test.YtejpcmjokamdcaaProg
import Derived.Test.YtejpcmjokamdcaaMe3
import Derived.Test.YtejpcmjokamdcaaElc
import Derived.Test.YtejpcmjokamdcaaEl4
set_option linter.unusedVariables false
set_option linter.unusedSimpArgs false
namespace Go.Proofs.Ytejpcmjokamdcaa
open Go.Vc Go.RowKit

def mcause (L : List IeD) : Int := match L.find? (fun y => decide (y.1 = 8)) with
  | some y => rcV y.1 y.2
  | none => 0
theorem find_vals (l : List IeV) (id : Int) : (vals l).find? (fun y => decide (y.1 = id)) = (l.find? (isId id)).map IeV.val := by
  induction l with
  | nil => rfl
  | cons x r ih =>
    show (x.val :: vals r).find? _ = _
    by_cases h : x.id = id
    · rw [List.find?_cons_of_pos (by simp [IeV.val, h]), List.find?_cons_of_pos (by simp [isId, h])]; rfl
    · rw [List.find?_cons_of_neg (by simp [IeV.val, h]), List.find?_cons_of_neg (by simp [isId, h]), ih]
theorem mcause_no {l : List IeV} (h : l.find? (isId 8) = none) : mcause (vals l) = 0 := by
  unfold mcause
  rw [find_vals, h]; rfl
theorem mcause_yes {l : List IeV} {y : IeV} (h : l.find? (isId 8) = some y) : mcause (vals l) = rcV y.id y.bs := by
  unfold mcause
  rw [find_vals, h]; rfl
set_option maxRecDepth 100000 in
set_option maxHeartbeats 4000000 in
theorem rfind_any (A : Option Addr) (n c lo hi : Nat) (l : List IeV) (w : World) (hn : l.length = n) (hA : Ies w lo hi A l) (id : Int) (hlen : n ≤ 1000000) (hhi : hi ≤ w.heap.size) :
  CV Try.prog 46 #[.slice A n c, .int .u8 id] w (fun x w1 => FindR w w1 x l id) := by
 have hS : Step No w w := Step.refl _ _
 refine CV_enter Try.f46 _ 25 [(0, .slice A n c), (1, .int .u8 id)] Try.func46 rfl rfl (by kernel_rfl) rfl ?_
 refine VC_seq ?_
 refine VC_region ?_
 have hzs1 := hS.size
 refine VL_box (d := 4) (t := 60) (c := #[.int .u8 0, .slice none 0 0]) (by kernel_rfl) (by kernel_rfl) ?_
 intro b1 w1 hn1
 replace hS := Step.trans hS (hn1.step No)
 replace hA := hA.no (hn1.step No)
 have ho1 := hn1.own
 have hzhn1 := hn1.size
 have hqhn1 := hn1.eqb
 refine VL_pure 2 [0, 1, 4] [(0, .slice A n c), (1, .int .u8 id), (4, .pointer (some ⟨b1, 0, none⟩))] (by kernel_rfl) rfl ?_
 refine VL_end (by kernel_rfl) ?_
 refine VQ_next ?_
 refine VC_seq ?_
 refine VC_seq ?_
 refine VC_region ?_
 refine VL_pure 3 [0, 1, 4, 8, 9] [(0, .slice A n c), (1, .int .u8 id), (4, .pointer (some ⟨b1, 0, none⟩)), (8, .int .i64 ((n : Nat) : Int)), (9, .int .i64 0)] (by kernel_rfl) rfl ?_
 refine VL_end (by kernel_rfl) ?_
 refine VQ_next ?_
 refine VC_block ?_
 refine VC_loop (σ := Nat) (fun σs => [(0, .slice A n c), (1, .int .u8 id), (4, .pointer (some ⟨b1, 0, none⟩)), (8, .int .i64 ((n : Nat) : Int)), (9, .int .i64 ((σs : Nat) : Int))]) (fun σs w2 => (σs ≤ n) ∧ (∀ i y, i < σs → l[i]? = some y → y.id ≠ id) ∧ (Step No w w2) ∧ (Ies w2 lo hi A l) ∧ (Own w2 b1 #[.int .u8 0, .slice none 0 0] 60)) (fun σs w2 => n - σs) 0 ⟨rfl, rfl, rfl, rfl, rfl, trivial⟩ ?_ ?_
 ·exact ⟨Nat.zero_le _, fun i y hi => absurd hi (Nat.not_lt_zero _), hS, hA, ho1⟩
 rintro j w2 ⟨hj, hz, hS, hA, ho1⟩
 try dsimp only at hj hz hS hA ho1 ⊢
 refine VC_seq ?_
 refine VC_region ?_
 refine VL_pure 1 [0, 1, 4, 8, 9, 10] [(0, .slice A n c), (1, .int .u8 id), (4, .pointer (some ⟨b1, 0, none⟩)), (8, .int .i64 ((n : Nat) : Int)), (9, .int .i64 ((j : Nat) : Int)), (10, .bool (decide (((j : Nat) : Int) < ((n : Nat) : Int))))] (by kernel_rfl) rfl ?_
 refine VL_end (by kernel_rfl) ?_
 refine VQ_next ?_
 refine VC_seq ?_
 refine VC_dec (((j : Nat) : Int) < ((n : Nat) : Int)) (by kernel_rfl) (fun h1 => ?_) (fun h1 => ?_)
 ·refine VC_skip ?_
  refine VQ_next ?_
  refine VC_seq ?_
  refine VC_block ?_
  refine VC_seq ?_
  refine VC_region ?_
  refine VL_pure 2 [0, 1, 4, 8, 9, 6] [(0, .slice A n c), (1, .int .u8 id), (4, .pointer (some ⟨b1, 0, none⟩)), (8, .int .i64 ((n : Nat) : Int)), (9, .int .i64 ((j : Nat) : Int)), (6, .int .i64 ((j : Nat) : Int))] (by kernel_rfl) rfl ?_
  refine VL_end (by kernel_rfl) ?_
  refine VQ_next ?_
  refine VC_seq ?_
  refine VC_region ?_
  refine VL_pure 2 [0, 1, 4, 8, 9, 6, 12, 13] [(0, .slice A n c), (1, .int .u8 id), (4, .pointer (some ⟨b1, 0, none⟩)), (8, .int .i64 ((n : Nat) : Int)), (9, .int .i64 ((j : Nat) : Int)), (6, .int .i64 ((j : Nat) : Int)), (12, .slice A n c), (13, .int .i64 ((j : Nat) : Int))] (by kernel_rfl) rfl ?_
  obtain ⟨sb1, so1, rfl, hlbsb1⟩ := hA.open (by omega)
  refine VL_index (d := 14) (b := sb1) (o := so1) (len := n) (sz := 2) (m := ((j : Nat) : Int)) (by kernel_rfl) (by kernel_rfl) j (by rfl) (by omega) (so1 + j * 2) (by omega) ?_
  refine VL_pure 4 [0, 1, 4, 8, 9, 6, 15] [(0, .slice (some ⟨sb1, so1, none⟩) n c), (1, .int .u8 id), (4, .pointer (some ⟨b1, 0, none⟩)), (8, .int .i64 ((n : Nat) : Int)), (9, .int .i64 ((j : Nat) : Int)), (6, .int .i64 ((j : Nat) : Int)), (15, .pointer (some ⟨sb1, so1 + j * 2, none⟩))] (by kernel_rfl) rfl ?_
  obtain ⟨⟨x1i, x1A, x1n, x1c, x1b⟩, hx1⟩ : ∃ x, l[j]? = some x := ⟨_, List.getElem?_eq_getElem (by omega)⟩
  obtain ⟨hnx1, hcx1, hbx1⟩ := Ies.body hA hx1
  dsimp only at hnx1 hcx1 hbx1
  refine VL_load (d := 16) (t := 5) (a := ⟨sb1, so1 + j * 2, none⟩) (v := .int .u8 x1i) (by kernel_rfl) (by kernel_rfl) (Ies.ld0 hA (by kernel_rfl) hx1) ?_
  refine VL_pure 7 [0, 1, 4, 8, 9, 6, 18] [(0, .slice (some ⟨sb1, so1, none⟩) n c), (1, .int .u8 id), (4, .pointer (some ⟨b1, 0, none⟩)), (8, .int .i64 ((n : Nat) : Int)), (9, .int .i64 ((j : Nat) : Int)), (6, .int .i64 ((j : Nat) : Int)), (18, .bool (x1i == id))] (by kernel_rfl) rfl ?_
  refine VL_end (by kernel_rfl) ?_
  refine VQ_next ?_
  refine VC_eq x1i id (by kernel_rfl) (fun h2 => ?_) (fun h2 => ?_)
  ·refine VC_seq ?_
   refine VC_region ?_
   refine VL_pure 2 [4, 19, 20] [(4, .pointer (some ⟨b1, 0, none⟩)), (19, .slice (some ⟨sb1, so1, none⟩) n c), (20, .int .i64 ((j : Nat) : Int))] (by kernel_rfl) rfl ?_
   refine VL_index (d := 21) (b := sb1) (o := so1) (len := n) (sz := 2) (m := ((j : Nat) : Int)) (by kernel_rfl) (by kernel_rfl) j (by rfl) (by omega) (so1 + j * 2) (by omega) ?_
   refine VL_load (d := 22) (t := 60) (a := ⟨sb1, so1 + j * 2, none⟩) (v := .agg #[.int .u8 x1i, .slice x1A x1n x1c]) (by kernel_rfl) (by kernel_rfl) (Ies.ld hA (by kernel_rfl) hx1) ?_
   refine VL_store (b := b1) (o := 0) (vs := [.int .u8 x1i, .slice x1A x1n x1c]) (by kernel_rfl) (by kernel_rfl) ho1 (Nat.le_of_ble_eq_true (by kernel_rfl)) ?_
   intro w3 hw1
   replace hS := Step.transNew hS hw1.step (fun _ _ _ => by omega)
   replace hA := hA.step hw1.step (fun k hk1 hk2 (hF : k = b1) => by omega)
   replace hbx1 := hbx1.step hw1.step (fun k hk (hF : k = b1) => by omega)
   have ho2 : Own w3 b1 #[.int .u8 x1i, .slice x1A x1n x1c] 60 := Own.cast hw1.own (by kernel_rfl)
   have hzhw1 := hw1.same
   refine VL_pure 6 [4, 5] [(4, .pointer (some ⟨b1, 0, none⟩)), (5, .bool true)] (by kernel_rfl) rfl ?_
   refine VL_end (by kernel_rfl) ?_
   refine VQ_next ?_
   refine VC_ret ?_
   refine VQ_block_ret ?_
   refine VQ_then_ret ?_
   refine VQ_then_ret ?_
   refine VQ_block_ret ?_
   refine VQ_then_ret ?_
   refine VQ_retC1T1 (T := 60) (.agg #[.int .u8 x1i, .slice x1A x1n x1c]) (.bool true) (.inr rfl) rfl rfl rfl (Loads.ownL ho2 (n := 2) (by kernel_rfl) (by kernel_rfl) (by kernel_rfl)) ?_
   exact ⟨.inr ⟨_, find_yes (by dsimp only; assumption) hx1 hz, rfl⟩, hS⟩
  ·refine VC_skip ?_
   refine VQ_block_normal ?_
   refine VQ_next ?_
   refine VC_region ?_
   refine VL_pure 1 [0, 1, 4, 8, 23] [(0, .slice (some ⟨sb1, so1, none⟩) n c), (1, .int .u8 id), (4, .pointer (some ⟨b1, 0, none⟩)), (8, .int .i64 ((n : Nat) : Int)), (23, .int .i64 (IntKind.wrap .i64 (((j : Nat) : Int) + 1)))] (by kernel_rfl) rfl ?_
   have he1 : IntKind.wrap .i64 (((j : Nat) : Int) + 1) = ((j + 1 : Nat) : Int) := (by rw [wrap_i64 _ (by omega) (by omega)]; omega)
   refine VL_eq [(0, .slice (some ⟨sb1, so1, none⟩) n c), (1, .int .u8 id), (4, .pointer (some ⟨b1, 0, none⟩)), (8, .int .i64 ((n : Nat) : Int)), (23, .int .i64 ((j + 1 : Nat) : Int))] (by rw [he1]) ?_
   refine VL_pure 2 [0, 1, 4, 8, 9] [(0, .slice (some ⟨sb1, so1, none⟩) n c), (1, .int .u8 id), (4, .pointer (some ⟨b1, 0, none⟩)), (8, .int .i64 ((n : Nat) : Int)), (9, .int .i64 ((j + 1 : Nat) : Int))] (by kernel_rfl) rfl ?_
   refine VL_end (by kernel_rfl) ?_
   refine VQ_again (j + 1) ⟨rfl, rfl, rfl, rfl, rfl, trivial⟩ ?_ ?_
   ·exact ⟨(by omega), fun i y hi hy => by rcases Nat.lt_succ_iff_lt_or_eq.1 hi with h9 | rfl; exact hz i y h9 hy; rw [hx1] at hy; cases hy; dsimp only; assumption, hS, hA, ho1⟩
   ·(try dsimp only); omega
 ·refine VC_exit ?_
  refine VQ_then_exit ?_
  refine VQ_then_exit ?_
  refine VQ_block_hit ?_
  refine VQ_next ?_
  refine VC_seq ?_
  refine VC_region ?_
  refine VL_pure 1 [4, 24] [(4, .pointer (some ⟨b1, 0, none⟩)), (24, .agg #[.int .u8 0, .slice none 0 0])] (by kernel_rfl) rfl ?_
  refine VL_store (b := b1) (o := 0) (vs := [.int .u8 0, .slice none 0 0]) (by kernel_rfl) (by kernel_rfl) ho1 (Nat.le_of_ble_eq_true (by kernel_rfl)) ?_
  intro w4 hw2
  replace hS := Step.transNew hS hw2.step (fun _ _ _ => by omega)
  replace hA := hA.step hw2.step (fun k hk1 hk2 (hF : k = b1) => by omega)
  have ho3 : Own w4 b1 #[.int .u8 0, .slice none 0 0] 60 := Own.cast hw2.own (by kernel_rfl)
  have hzhw2 := hw2.same
  refine VL_pure 3 [4, 5] [(4, .pointer (some ⟨b1, 0, none⟩)), (5, .bool false)] (by kernel_rfl) rfl ?_
  refine VL_end (by kernel_rfl) ?_
  refine VQ_next ?_
  refine VC_ret ?_
  refine VQ_retC1T1 (T := 60) (.agg #[.int .u8 0, .slice none 0 0]) (.bool false) (.inr rfl) rfl rfl rfl (Loads.ownL ho3 (n := 2) (by kernel_rfl) (by kernel_rfl) (by kernel_rfl)) ?_
  exact ⟨.inl ⟨find_no hn (fun i y hi hy => hz i y (by omega) hy), rfl⟩, hS⟩

set_option maxRecDepth 100000 in
set_option maxHeartbeats 4000000 in
theorem mcause_any (r : Int) (bk : Bool) (k : Int) (A : Option Addr) (n c lo hi : Nat) (l : List IeV) (w : World) (hn : l.length = n) (hA : Ies w lo hi A l) (hlen : n ≤ 1000000) (hhi : hi ≤ w.heap.size) (hl : ∀ x ∈ l, IeB x) (hsm : ∀ x ∈ l, x.n < 1000000) :
  CV Try.prog 20 #[.agg #[.int .i64 r, .bool bk, .int .i64 k, .slice A n c]] w (fun x w1 => x = .int .i64 (mcause (vals l)) ∧ Step No w w1) := by
 have hS : Step No w w := Step.refl _ _
 refine CV_enter Try.f20 _ 21 [(0, .agg #[.int .i64 r, .bool bk, .int .i64 k, .slice A n c])] Try.func20 rfl rfl (by kernel_rfl) rfl ?_
 refine VC_seq ?_
 refine VC_region ?_
 have hzs1 := hS.size
 refine VL_box (d := 1) (t := 24) (c := #[.int .i64 r, .bool bk, .int .i64 k, .slice A n c]) (by kernel_rfl) (by kernel_rfl) ?_
 intro b1 w1 hn1
 replace hS := Step.trans hS (hn1.step No)
 replace hA := hA.no (hn1.step No)
 have ho1 := hn1.own
 have hzhn1 := hn1.size
 have hqhn1 := hn1.eqb
 refine VL_pure 2 [1] [(1, .pointer (some ⟨b1, 0, none⟩))] (by kernel_rfl) rfl ?_
 refine VL_end (by kernel_rfl) ?_
 refine VQ_next ?_
 refine VC_seq ?_
 refine VC_region ?_
 refine VL_pure 1 [8] [(8, .pointer (some ⟨b1, 3, none⟩))] (by kernel_rfl) rfl ?_
 refine VL_load (d := 9) (t := 22) (a := ⟨b1, 3, none⟩) (v := .slice A n c) (by kernel_rfl) (by kernel_rfl) (Loads.own1 ho1 (by kernel_rfl) (by rfl)) ?_
 have hzs2 := hS.size
 have hzl1 := ho1.lt
 refine VL_call (d := 10) (f := 36) (args := #[.slice A n c, .int .u8 8]) (by kernel_rfl) (by kernel_rfl) (by kernel_rfl) Try.call36 (find_any A n c lo hi l _ hn hA 8 (by omega) (by first | exact Nat.le_refl _ | omega)) ?_
 rintro _ w2 ⟨(⟨hF, rfl⟩ | ⟨⟨yi, yA, yn, yc, yb⟩, hF, rfl⟩), hc1⟩
 ·replace hS := Step.trans hS hc1
  replace hA := hA.no hc1
  replace ho1 := ho1.no hc1
  refine VL_pure 6 [11, 12] [(11, .agg #[.int .u8 0, .slice none 0 0]), (12, .bool false)] (by kernel_rfl) rfl ?_
  have hzs3 := hS.size
  have hzl2 := ho1.lt
  refine VL_box (d := 3) (t := 60) (c := #[.int .u8 0, .slice none 0 0]) (by kernel_rfl) (by kernel_rfl) ?_
  intro b2 w3 hn2
  replace hS := Step.trans hS (hn2.step No)
  replace hA := hA.no (hn2.step No)
  replace ho1 := ho1.no (hn2.step No)
  have ho2 := hn2.own
  have hzhn2 := hn2.size
  have hqhn2 := hn2.eqb
  refine VL_store (b := b2) (o := 0) (vs := [.int .u8 0, .slice none 0 0]) (by kernel_rfl) (by kernel_rfl) ho2 (Nat.le_of_ble_eq_true (by kernel_rfl)) ?_
  intro w4 hw1
  replace hS := Step.transNew hS hw1.step (fun _ _ _ => by omega)
  replace hA := hA.step hw1.step (fun k hk1 hk2 (hF : k = b2) => by omega)
  replace ho1 := ho1.step hw1.step (show ¬ b1 = b2 by omega)
  have ho3 : Own w4 b2 #[.int .u8 0, .slice none 0 0] 60 := Own.cast hw1.own (by kernel_rfl)
  have hzhw1 := hw1.same
  refine VL_pure 9 [3, 4] [(3, .pointer (some ⟨b2, 0, none⟩)), (4, .bool false)] (by kernel_rfl) rfl ?_
  refine VL_end (by kernel_rfl) ?_
  refine VQ_next ?_
  refine VC_seq ?_
  refine VC_seq ?_
  refine VC_region ?_
  refine VL_pure 2 [3, 14] [(3, .pointer (some ⟨b2, 0, none⟩)), (14, .bool true)] (by kernel_rfl) rfl ?_
  refine VL_end (by kernel_rfl) ?_
  refine VQ_next ?_
  refine VC_true (by kernel_rfl) ?_
  refine VC_seq ?_
  refine VC_region ?_
  refine VL_pure 1 [2] [(2, .int .i64 0)] (by kernel_rfl) rfl ?_
  refine VL_end (by kernel_rfl) ?_
  refine VQ_next ?_
  refine VC_ret ?_
  refine VQ_then_ret ?_
  refine VQ_ret1 (.int .i64 0) (.inr rfl) rfl rfl ?_
  exact ⟨congrArg (Value.int .i64) (mcause_no hF).symm, hS⟩
 ·replace hS := Step.trans hS hc1
  replace hA := hA.no hc1
  replace ho1 := ho1.no hc1
  have hyl := (find_in hF).1
  have hyn : yb.length = yn := (hA.all _ hyl).len
  have hys : yn < 1000000 := hsm _ hyl
  have hyc : yn ≤ yc := (hA.all _ hyl).cap
  have hyS : Sl w2 hi yA (iL .u8 yb) := (hA.all _ hyl).sl.sl
  have hyB : Bytes yb := (hl _ hyl).2
  dsimp only
  refine VL_pure 6 [11, 12] [(11, .agg #[.int .u8 yi, .slice yA yn yc]), (12, .bool true)] (by kernel_rfl) rfl ?_
  have hzs4 := hS.size
  have hzl3 := ho1.lt
  refine VL_box (d := 3) (t := 60) (c := #[.int .u8 0, .slice none 0 0]) (by kernel_rfl) (by kernel_rfl) ?_
  intro b3 w5 hn3
  replace hS := Step.trans hS (hn3.step No)
  replace hA := hA.no (hn3.step No)
  replace ho1 := ho1.no (hn3.step No)
  replace hyS := hyS.no (hn3.step No)
  have ho4 := hn3.own
  have hzhn3 := hn3.size
  have hqhn3 := hn3.eqb
  refine VL_store (b := b3) (o := 0) (vs := [.int .u8 yi, .slice yA yn yc]) (by kernel_rfl) (by kernel_rfl) ho4 (Nat.le_of_ble_eq_true (by kernel_rfl)) ?_
  intro w6 hw2
  replace hS := Step.transNew hS hw2.step (fun _ _ _ => by omega)
  replace hA := hA.step hw2.step (fun k hk1 hk2 (hF : k = b3) => by omega)
  replace ho1 := ho1.step hw2.step (show ¬ b1 = b3 by omega)
  replace hyS := hyS.step hw2.step (fun k hk (hF : k = b3) => by omega)
  have ho5 : Own w6 b3 #[.int .u8 yi, .slice yA yn yc] 60 := Own.cast hw2.own (by kernel_rfl)
  have hzhw2 := hw2.same
  refine VL_pure 9 [3, 4] [(3, .pointer (some ⟨b3, 0, none⟩)), (4, .bool true)] (by kernel_rfl) rfl ?_
  refine VL_end (by kernel_rfl) ?_
  refine VQ_next ?_
  refine VC_seq ?_
  refine VC_seq ?_
  refine VC_region ?_
  refine VL_pure 2 [3, 14] [(3, .pointer (some ⟨b3, 0, none⟩)), (14, .bool false)] (by kernel_rfl) rfl ?_
  refine VL_end (by kernel_rfl) ?_
  refine VQ_next ?_
  refine VC_false (by kernel_rfl) ?_
  refine VC_skip ?_
  refine VQ_next ?_
  refine VC_seq ?_
  refine VC_region ?_
  refine VL_load (d := 16) (t := 60) (a := ⟨b3, 0, none⟩) (v := .agg #[.int .u8 yi, .slice yA yn yc]) (by kernel_rfl) (by kernel_rfl) (Loads.ownL ho5 (n := 2) (by kernel_rfl) (by kernel_rfl) (by kernel_rfl)) ?_
  have hzs5 := hS.size
  have hzl4 := ho1.lt
  have hzl5 := ho5.lt
  refine VL_call (d := 17) (f := 37) (by kernel_rfl) (by kernel_rfl) (by kernel_rfl) Try.call37 (rdcause_any yi yA yn yc _ yb _ hyn (by omega) hyS hyB (by first | exact Nat.le_refl _ | omega)) ?_
  rintro _ w7 ⟨rfl, hc2⟩
  replace hS := Step.trans hS hc2
  replace hA := hA.no hc2
  replace ho1 := ho1.no hc2
  replace hyS := hyS.no hc2
  replace ho5 := ho5.no hc2
  refine VL_pure 7 [5] [(5, .int .i64 (rcV yi yb))] (by kernel_rfl) rfl ?_
  refine VL_end (by kernel_rfl) ?_
  refine VQ_next ?_
  refine VC_seq ?_
  refine VC_region ?_
  refine VL_pure 2 [2] [(2, .int .i64 (rcV yi yb))] (by kernel_rfl) rfl ?_
  refine VL_end (by kernel_rfl) ?_
  refine VQ_next ?_
  refine VC_ret ?_
  refine VQ_ret1 (.int .i64 (rcV yi yb)) (.inr rfl) rfl rfl ?_
  exact ⟨congrArg (Value.int .i64) (mcause_yes hF).symm, hS⟩

set_option maxRecDepth 100000 in
set_option maxHeartbeats 4000000 in
theorem rmcause_any (r : Int) (bk : Bool) (k : Int) (A : Option Addr) (n c lo hi : Nat) (l : List IeV) (w : World) (hn : l.length = n) (hA : Ies w lo hi A l) (hlen : n ≤ 1000000) (hhi : hi ≤ w.heap.size) (hl : ∀ x ∈ l, IeB x) (hsm : ∀ x ∈ l, x.n < 1000000) :
  CV Try.prog 27 #[.agg #[.int .i64 r, .bool bk, .int .i64 k, .slice A n c]] w (fun x w1 => x = .int .i64 (mcause (vals l)) ∧ Step No w w1) := by
 have hS : Step No w w := Step.refl _ _
 refine CV_enter Try.f27 _ 25 [(0, .agg #[.int .i64 r, .bool bk, .int .i64 k, .slice A n c])] Try.func27 rfl rfl (by kernel_rfl) rfl ?_
 refine VC_seq ?_
 refine VC_region ?_
 have hzs1 := hS.size
 refine VL_box (d := 1) (t := 24) (c := #[.int .i64 r, .bool bk, .int .i64 k, .slice A n c]) (by kernel_rfl) (by kernel_rfl) ?_
 intro b1 w1 hn1
 replace hS := Step.trans hS (hn1.step No)
 replace hA := hA.no (hn1.step No)
 have ho1 := hn1.own
 have hzhn1 := hn1.size
 have hqhn1 := hn1.eqb
 refine VL_pure 2 [1] [(1, .pointer (some ⟨b1, 0, none⟩))] (by kernel_rfl) rfl ?_
 refine VL_end (by kernel_rfl) ?_
 refine VQ_next ?_
 refine VC_seq ?_
 refine VC_region ?_
 refine VL_pure 1 [8] [(8, .pointer (some ⟨b1, 3, none⟩))] (by kernel_rfl) rfl ?_
 refine VL_load (d := 9) (t := 22) (a := ⟨b1, 3, none⟩) (v := .slice A n c) (by kernel_rfl) (by kernel_rfl) (Loads.own1 ho1 (by kernel_rfl) (by rfl)) ?_
 have hzs2 := hS.size
 have hzl1 := ho1.lt
 refine VL_call (d := 10) (f := 46) (args := #[.slice A n c, .int .u8 8]) (by kernel_rfl) (by kernel_rfl) (by kernel_rfl) Try.call46 (rfind_any A n c lo hi l _ hn hA 8 (by omega) (by first | exact Nat.le_refl _ | omega)) ?_
 rintro _ w2 ⟨(⟨hF, rfl⟩ | ⟨⟨yi, yA, yn, yc, yb⟩, hF, rfl⟩), hc1⟩
 ·replace hS := Step.trans hS hc1
  replace hA := hA.no hc1
  replace ho1 := ho1.no hc1
  refine VL_pure 6 [11, 12] [(11, .agg #[.int .u8 0, .slice none 0 0]), (12, .bool false)] (by kernel_rfl) rfl ?_
  have hzs3 := hS.size
  have hzl2 := ho1.lt
  refine VL_box (d := 3) (t := 60) (c := #[.int .u8 0, .slice none 0 0]) (by kernel_rfl) (by kernel_rfl) ?_
  intro b2 w3 hn2
  replace hS := Step.trans hS (hn2.step No)
  replace hA := hA.no (hn2.step No)
  replace ho1 := ho1.no (hn2.step No)
  have ho2 := hn2.own
  have hzhn2 := hn2.size
  have hqhn2 := hn2.eqb
  refine VL_store (b := b2) (o := 0) (vs := [.int .u8 0, .slice none 0 0]) (by kernel_rfl) (by kernel_rfl) ho2 (Nat.le_of_ble_eq_true (by kernel_rfl)) ?_
  intro w4 hw1
  replace hS := Step.transNew hS hw1.step (fun _ _ _ => by omega)
  replace hA := hA.step hw1.step (fun k hk1 hk2 (hF : k = b2) => by omega)
  replace ho1 := ho1.step hw1.step (show ¬ b1 = b2 by omega)
  have ho3 : Own w4 b2 #[.int .u8 0, .slice none 0 0] 60 := Own.cast hw1.own (by kernel_rfl)
  have hzhw1 := hw1.same
  refine VL_pure 9 [3, 4] [(3, .pointer (some ⟨b2, 0, none⟩)), (4, .bool false)] (by kernel_rfl) rfl ?_
  refine VL_end (by kernel_rfl) ?_
  refine VQ_next ?_
  refine VC_seq ?_
  refine VC_region ?_
  refine VL_load (d := 14) (t := 60) (a := ⟨b2, 0, none⟩) (v := .agg #[.int .u8 0, .slice none 0 0]) (by kernel_rfl) (by kernel_rfl) (Loads.ownL ho3 (n := 2) (by kernel_rfl) (by kernel_rfl) (by kernel_rfl)) ?_
  have hzs4 := hS.size
  have hzl3 := ho1.lt
  have hzl4 := ho3.lt
  refine VL_call (d := 15) (f := 49) (by kernel_rfl) (by kernel_rfl) (by kernel_rfl) Try.call49 (rrdcause_any 0 none 0 0 _ ([] : List Int) _ rfl (by omega) (Sl.nil (B := 0)) Bytes.nil (by first | exact Nat.le_refl _ | omega)) ?_
  rintro _ w5 ⟨rfl, hc2⟩
  replace hS := Step.trans hS hc2
  replace hA := hA.no hc2
  replace ho1 := ho1.no hc2
  replace ho3 := ho3.no hc2
  refine VL_pure 7 [4, 5, 6] [(4, .bool false), (5, .int .i64 (rcV 0 ([] : List Int))), (6, .int .i64 (rcE 0 ([] : List Int)))] (by kernel_rfl) rfl ?_
  refine VL_end (by kernel_rfl) ?_
  refine VQ_next ?_
  refine VC_seq ?_
  refine VC_seq ?_
  refine VC_region ?_
  refine VL_pure 6 [5, 23] [(5, .int .i64 (rcV 0 ([] : List Int))), (23, .bool true)] (by kernel_rfl) rfl ?_
  refine VL_end (by kernel_rfl) ?_
  refine VQ_next ?_
  refine VC_true (by kernel_rfl) ?_
  refine VC_seq ?_
  refine VC_region ?_
  refine VL_pure 1 [2] [(2, .int .i64 0)] (by kernel_rfl) rfl ?_
  refine VL_end (by kernel_rfl) ?_
  refine VQ_next ?_
  refine VC_ret ?_
  refine VQ_then_ret ?_
  refine VQ_ret1 (.int .i64 0) (.inr rfl) rfl rfl ?_
  exact ⟨congrArg (Value.int .i64) (mcause_no hF).symm, hS⟩
 ·replace hS := Step.trans hS hc1
  replace hA := hA.no hc1
  replace ho1 := ho1.no hc1
  have hyl := (find_in hF).1
  have hyn : yb.length = yn := (hA.all _ hyl).len
  have hys : yn < 1000000 := hsm _ hyl
  have hyc : yn ≤ yc := (hA.all _ hyl).cap
  have hyS : Sl w2 hi yA (iL .u8 yb) := (hA.all _ hyl).sl.sl
  have hyB : Bytes yb := (hl _ hyl).2
  dsimp only
  refine VL_pure 6 [11, 12] [(11, .agg #[.int .u8 yi, .slice yA yn yc]), (12, .bool true)] (by kernel_rfl) rfl ?_
  have hzs5 := hS.size
  have hzl5 := ho1.lt
  refine VL_box (d := 3) (t := 60) (c := #[.int .u8 0, .slice none 0 0]) (by kernel_rfl) (by kernel_rfl) ?_
  intro b3 w6 hn3
  replace hS := Step.trans hS (hn3.step No)
  replace hA := hA.no (hn3.step No)
  replace ho1 := ho1.no (hn3.step No)
  replace hyS := hyS.no (hn3.step No)
  have ho4 := hn3.own
  have hzhn3 := hn3.size
  have hqhn3 := hn3.eqb
  refine VL_store (b := b3) (o := 0) (vs := [.int .u8 yi, .slice yA yn yc]) (by kernel_rfl) (by kernel_rfl) ho4 (Nat.le_of_ble_eq_true (by kernel_rfl)) ?_
  intro w7 hw2
  replace hS := Step.transNew hS hw2.step (fun _ _ _ => by omega)
  replace hA := hA.step hw2.step (fun k hk1 hk2 (hF : k = b3) => by omega)
  replace ho1 := ho1.step hw2.step (show ¬ b1 = b3 by omega)
  replace hyS := hyS.step hw2.step (fun k hk (hF : k = b3) => by omega)
  have ho5 : Own w7 b3 #[.int .u8 yi, .slice yA yn yc] 60 := Own.cast hw2.own (by kernel_rfl)
  have hzhw2 := hw2.same
  refine VL_pure 9 [3, 4] [(3, .pointer (some ⟨b3, 0, none⟩)), (4, .bool true)] (by kernel_rfl) rfl ?_
  refine VL_end (by kernel_rfl) ?_
  refine VQ_next ?_
  refine VC_seq ?_
  refine VC_region ?_
  refine VL_load (d := 14) (t := 60) (a := ⟨b3, 0, none⟩) (v := .agg #[.int .u8 yi, .slice yA yn yc]) (by kernel_rfl) (by kernel_rfl) (Loads.ownL ho5 (n := 2) (by kernel_rfl) (by kernel_rfl) (by kernel_rfl)) ?_
  have hzs6 := hS.size
  have hzl6 := ho1.lt
  have hzl7 := ho5.lt
  refine VL_call (d := 15) (f := 49) (by kernel_rfl) (by kernel_rfl) (by kernel_rfl) Try.call49 (rrdcause_any yi yA yn yc _ yb _ hyn (by omega) hyS hyB (by first | exact Nat.le_refl _ | omega)) ?_
  rintro _ w8 ⟨rfl, hc3⟩
  replace hS := Step.trans hS hc3
  replace hA := hA.no hc3
  replace ho1 := ho1.no hc3
  replace hyS := hyS.no hc3
  replace ho5 := ho5.no hc3
  refine VL_pure 7 [4, 5, 6] [(4, .bool true), (5, .int .i64 (rcV yi yb)), (6, .int .i64 (rcE yi yb))] (by kernel_rfl) rfl ?_
  refine VL_end (by kernel_rfl) ?_
  refine VQ_next ?_
  refine VC_seq ?_
  refine VC_seq ?_
  refine VC_region ?_
  refine VL_pure 6 [5, 23] [(5, .int .i64 (rcV yi yb)), (23, .bool ((rcE yi yb) != 0))] (by kernel_rfl) rfl ?_
  refine VL_end (by kernel_rfl) ?_
  refine VQ_next ?_
  refine VC_ne (rcE yi yb) 0 (by kernel_rfl) (fun h1 => ?_) (fun h1 => ?_)
  ·refine VC_seq ?_
   refine VC_region ?_
   refine VL_pure 1 [2] [(2, .int .i64 0)] (by kernel_rfl) rfl ?_
   refine VL_end (by kernel_rfl) ?_
   refine VQ_next ?_
   refine VC_ret ?_
   refine VQ_then_ret ?_
   refine VQ_ret1 (.int .i64 0) (.inr rfl) rfl rfl ?_
   exact ⟨congrArg (Value.int .i64) ((mcause_yes hF).trans (rcV_n (by assumption))).symm, hS⟩
  ·refine VC_skip ?_
   refine VQ_next ?_
   refine VC_seq ?_
   refine VC_region ?_
   refine VL_pure 2 [2] [(2, .int .i64 (rcV yi yb))] (by kernel_rfl) rfl ?_
   refine VL_end (by kernel_rfl) ?_
   refine VQ_next ?_
   refine VC_ret ?_
   refine VQ_ret1 (.int .i64 (rcV yi yb)) (.inr rfl) rfl rfl ?_
   exact ⟨congrArg (Value.int .i64) (mcause_yes hF).symm, hS⟩

theorem awk_ieb {A : Option Addr} : ∀ x ∈ [(⟨8, A, 2, 2, [0, 35]⟩ : IeV)], IeB x := by
  intro x hx
  simp only [List.mem_cons, List.mem_nil_iff, or_false] at hx
  subst hx
  exact ⟨by dsimp only; omega, by intro y hy; simp only [List.mem_cons, List.mem_nil_iff, or_false] at hy; omega⟩
theorem awkM {A : Option Addr} : msgE 5 false 90 (vals [⟨8, A, 2, 2, [0, 35]⟩]) = 0 ∧ msgT 5 false 90 (vals [⟨8, A, 2, 2, [0, 35]⟩]) = [9, 3, 0, 0, 5, 90, 128, 0, 6, 8, 128, 0, 2, 0, 35] := by
  have h : vals [⟨8, A, 2, 2, [0, 35]⟩] = [(8, [0, 35])] := rfl
  rw [h]
  constructor <;> decide +kernel
theorem awkB {A : Option Addr} : Bytes (msgT 5 false 90 (vals [⟨8, A, 2, 2, [0, 35]⟩])) := by
  rw [awkM.2]; intro x hx; simp only [List.mem_cons, List.mem_nil_iff, or_false] at hx; omega
theorem awkU {A : Option Addr} : muE (msgT 5 false 90 (vals [⟨8, A, 2, 2, [0, 35]⟩])) = 0 ∧ muR (msgT 5 false 90 (vals [⟨8, A, 2, 2, [0, 35]⟩])) = 5 ∧ muL (msgT 5 false 90 (vals [⟨8, A, 2, 2, [0, 35]⟩])) = [(8, [0, 35])] := by
  obtain ⟨h1, h2, _, _, h5⟩ := msg_there (awkM (A := A)).1
  exact ⟨h1, h2, h5⟩
theorem awkC : mcause [(8, [0, 35])] = 35 := by decide +kernel
set_option maxRecDepth 100000 in
set_option maxHeartbeats 4000000 in
theorem awake_any (w : World) :
  CV Try.prog 9 #[] w (fun x w1 => x = .bool true ∧ Step No w w1) := by
 have hS : Step No w w := Step.refl _ _
 refine CV_enter Try.f9 _ 39 [] Try.func9 rfl rfl (by kernel_rfl) rfl ?_
 refine VC_seq ?_
 refine VC_region ?_
 refine VL_pure 1 [] [] (by kernel_rfl) rfl ?_
 refine VL_end (by kernel_rfl) ?_
 refine VQ_next ?_
 refine VC_seq ?_
 refine VC_region ?_
 have hzs1 := hS.size
 refine VL_bs (d := 6) (e := 5) (c := #[.int .u8 0, .int .u8 35]) (len := 2) (by kernel_rfl) (by kernel_rfl) ?_
 intro b1 w1 hn1
 replace hS := Step.trans hS (hn1.step No)
 have ho1 := hn1.own
 have hzhn1 := hn1.size
 have hqhn1 := hn1.eqb
 refine VL_pure 2 [7] [(7, .agg #[.int .u8 8, .slice (some ⟨b1, 0, none⟩) 2 2])] (by kernel_rfl) rfl ?_
 have hzs2 := hS.size
 have hzl1 := ho1.lt
 refine VL_bs (d := 8) (e := 60) (c := #[.int .u8 8, .slice (some ⟨b1, 0, none⟩) 2 2]) (len := 1) (by kernel_rfl) (by kernel_rfl) ?_
 intro b2 w2 hn2
 replace hS := Step.trans hS (hn2.step No)
 replace ho1 := ho1.no (hn2.step No)
 have ho2 := hn2.own
 have hzhn2 := hn2.size
 have hqhn2 := hn2.eqb
 refine VL_pure 4 [9] [(9, .agg #[.int .i64 5, .bool false, .int .i64 90, .slice (some ⟨b2, 0, none⟩) 1 1])] (by kernel_rfl) rfl ?_
 have hI1 : Ies w2 0 w2.heap.size (some ⟨b2, 0, none⟩) [⟨8, (some ⟨b1, 0, none⟩), 2, 2, [0, 35]⟩] := ⟨Sl.sl2 (Own.sl ho2 ho2.lt), by intro x hx; simp only [List.mem_cons, List.mem_nil_iff, or_false] at hx; subst hx <;> first | exact ⟨rfl, by (try dsimp only); omega, Sl.sl2 (Sl.mono (Own.sl ho1 ho1.lt) (by first | exact Nat.le_refl _ | omega))⟩⟩
 have hzs3 := hS.size
 have hzl2 := ho1.lt
 have hzl3 := ho2.lt
 refine VL_call (d := 10) (f := 11) (by kernel_rfl) (by kernel_rfl) (by kernel_rfl) Try.call11 (msgpack_any 5 false 90 (some ⟨b2, 0, none⟩) 1 1 0 w2.heap.size ([⟨8, (some ⟨b1, 0, none⟩), 2, 2, [0, 35]⟩]) _ rfl hI1 (by omega) (by first | exact Nat.le_refl _ | omega)) ?_
 rintro _ w3 ⟨A1, c1, rfl, hr1, hc1⟩
 replace hS := Step.trans hS hc1
 replace ho1 := ho1.no hc1
 replace ho2 := ho2.no hc1
 obtain ⟨base1, hbase1E⟩ : ∃ x, x = w2.heap.size := ⟨_, rfl⟩
 rw [← hbase1E] at hr1
 have hbase1 : base1 ≤ w3.heap.size := by rw [hbase1E]; exact hc1.size
 have hmlq1 := msgT_le 5 false 90 (vals ([⟨8, (some ⟨b1, 0, none⟩), 2, 2, [0, 35]⟩]))
 refine VL_pure 10 [1, 2] [(1, .slice A1 ((msgT 5 false 90 (vals ([⟨8, (some ⟨b1, 0, none⟩), 2, 2, [0, 35]⟩]))).length) c1), (2, .int .i64 (msgE 5 false 90 (vals ([⟨8, (some ⟨b1, 0, none⟩), 2, 2, [0, 35]⟩]))))] (by kernel_rfl) rfl ?_
 refine VL_end (by kernel_rfl) ?_
 refine VQ_next ?_
 refine VC_seq ?_
 refine VC_region ?_
 refine VL_pure 1 [1, 2, 14] [(1, .slice A1 ((msgT 5 false 90 (vals ([⟨8, (some ⟨b1, 0, none⟩), 2, 2, [0, 35]⟩]))).length) c1), (2, .int .i64 (msgE 5 false 90 (vals ([⟨8, (some ⟨b1, 0, none⟩), 2, 2, [0, 35]⟩])))), (14, .slice A1 ((msgT 5 false 90 (vals ([⟨8, (some ⟨b1, 0, none⟩), 2, 2, [0, 35]⟩]))).length) c1)] (by kernel_rfl) rfl ?_
 have hzs4 := hS.size
 have hzl4 := ho1.lt
 have hzl5 := ho2.lt
 refine VL_call (d := 15) (f := 13) (by kernel_rfl) (by kernel_rfl) (by kernel_rfl) Try.call13 (msgun_any A1 ((msgT 5 false 90 (vals ([⟨8, (some ⟨b1, 0, none⟩), 2, 2, [0, 35]⟩]))).length) c1 _ (msgT 5 false 90 (vals ([⟨8, (some ⟨b1, 0, none⟩), 2, 2, [0, 35]⟩]))) _ (Rw.lenI hr1) (Rw.slI hr1) (by have hq9 := Rw.cap hr1; omega) awkB (by omega) (by first | exact Nat.le_refl _ | omega)) ?_
 rintro _ w4 ⟨Ai1, ci1, li1, rfl, hv1, hI2, hc2⟩
 replace hS := Step.trans hS hc2
 replace ho1 := ho1.no hc2
 replace ho2 := ho2.no hc2
 replace hbase1 := Nat.le_trans hbase1 (hc2).size
 replace hr1 := hr1.no hc2
 have hleli1 : w4.heap.size ≤ w4.heap.size := Nat.le_refl _
 have hV1 := Ier.ies hI2
 have hcntli1 : li1.length ≤ 16 := by rw [← vals_len, hv1]; exact muL_count (msgT 5 false 90 (vals ([⟨8, (some ⟨b1, 0, none⟩), 2, 2, [0, 35]⟩])))
 have hcali1 : li1.length ≤ ci1 := RwS.cap hI2.row
 have hibli1 : ∀ x ∈ li1, IeB x := mu_ieb hv1 awkB
 have hsmli1 : ∀ x ∈ li1, x.n ≤ 200 := mu_small hV1 hv1 awkB
 refine VL_pure 5 [1, 2, 16, 17] [(1, .slice A1 ((msgT 5 false 90 (vals ([⟨8, (some ⟨b1, 0, none⟩), 2, 2, [0, 35]⟩]))).length) c1), (2, .int .i64 (msgE 5 false 90 (vals ([⟨8, (some ⟨b1, 0, none⟩), 2, 2, [0, 35]⟩])))), (16, .agg #[.int .i64 (muR (msgT 5 false 90 (vals ([⟨8, (some ⟨b1, 0, none⟩), 2, 2, [0, 35]⟩])))), .bool (muB (msgT 5 false 90 (vals ([⟨8, (some ⟨b1, 0, none⟩), 2, 2, [0, 35]⟩])))), .int .i64 (muK (msgT 5 false 90 (vals ([⟨8, (some ⟨b1, 0, none⟩), 2, 2, [0, 35]⟩])))), .slice Ai1 li1.length ci1]), (17, .int .i64 (muE (msgT 5 false 90 (vals ([⟨8, (some ⟨b1, 0, none⟩), 2, 2, [0, 35]⟩])))))] (by kernel_rfl) rfl ?_
 have hzs5 := hS.size
 have hzl6 := ho1.lt
 have hzl7 := ho2.lt
 have hzk1 := hbase1
 have hzk2 := hleli1
 have hub1 := hr1.ub
 refine VL_box (d := 3) (t := 24) (c := #[.int .i64 0, .bool false, .int .i64 0, .slice none 0 0]) (by kernel_rfl) (by kernel_rfl) ?_
 intro b3 w5 hn3
 replace hS := Step.trans hS (hn3.step No)
 replace ho1 := ho1.no (hn3.step No)
 replace ho2 := ho2.no (hn3.step No)
 replace hbase1 := Nat.le_trans hbase1 (hn3.step No).size
 replace hr1 := hr1.no (hn3.step No)
 replace hV1 := hV1.no (hn3.step No)
 replace hleli1 := Nat.le_trans hleli1 (hn3.step No).size
 have ho3 := hn3.own
 have hzhn3 := hn3.size
 have hqhn3 := hn3.eqb
 refine VL_store (b := b3) (o := 0) (vs := [.int .i64 (muR (msgT 5 false 90 (vals ([⟨8, (some ⟨b1, 0, none⟩), 2, 2, [0, 35]⟩])))), .bool (muB (msgT 5 false 90 (vals ([⟨8, (some ⟨b1, 0, none⟩), 2, 2, [0, 35]⟩])))), .int .i64 (muK (msgT 5 false 90 (vals ([⟨8, (some ⟨b1, 0, none⟩), 2, 2, [0, 35]⟩])))), .slice Ai1 li1.length ci1]) (by kernel_rfl) (by kernel_rfl) ho3 (Nat.le_of_ble_eq_true (by kernel_rfl)) ?_
 intro w6 hw1
 replace hS := Step.transNew hS hw1.step (fun _ _ _ => by omega)
 replace ho1 := ho1.step hw1.step (show ¬ b1 = b3 by omega)
 replace ho2 := ho2.step hw1.step (show ¬ b2 = b3 by omega)
 replace hbase1 := Nat.le_trans hbase1 (hw1.step).size
 replace hr1 := hr1.stepU hub1 hw1.step (fun k hk1 hk2 (hF : k = b3) => by omega)
 replace hV1 := hV1.step hw1.step (fun k hk1 hk2 (hF : k = b3) => by omega)
 replace hleli1 := Nat.le_trans hleli1 (hw1.step).size
 have ho4 : Own w6 b3 #[.int .i64 (muR (msgT 5 false 90 (vals ([⟨8, (some ⟨b1, 0, none⟩), 2, 2, [0, 35]⟩])))), .bool (muB (msgT 5 false 90 (vals ([⟨8, (some ⟨b1, 0, none⟩), 2, 2, [0, 35]⟩])))), .int .i64 (muK (msgT 5 false 90 (vals ([⟨8, (some ⟨b1, 0, none⟩), 2, 2, [0, 35]⟩])))), .slice Ai1 li1.length ci1] 24 := Own.cast hw1.own (by kernel_rfl)
 have hzhw1 := hw1.same
 refine VL_pure 8 [1, 2, 3, 4] [(1, .slice A1 ((msgT 5 false 90 (vals ([⟨8, (some ⟨b1, 0, none⟩), 2, 2, [0, 35]⟩]))).length) c1), (2, .int .i64 (msgE 5 false 90 (vals ([⟨8, (some ⟨b1, 0, none⟩), 2, 2, [0, 35]⟩])))), (3, .pointer (some ⟨b3, 0, none⟩)), (4, .int .i64 (muE (msgT 5 false 90 (vals ([⟨8, (some ⟨b1, 0, none⟩), 2, 2, [0, 35]⟩])))))] (by kernel_rfl) rfl ?_
 refine VL_end (by kernel_rfl) ?_
 refine VQ_next ?_
 refine VC_seq ?_
 refine VC_region ?_
 refine VL_pure 3 [1, 3, 4, 20] [(1, .slice A1 ((msgT 5 false 90 (vals ([⟨8, (some ⟨b1, 0, none⟩), 2, 2, [0, 35]⟩]))).length) c1), (3, .pointer (some ⟨b3, 0, none⟩)), (4, .int .i64 (muE (msgT 5 false 90 (vals ([⟨8, (some ⟨b1, 0, none⟩), 2, 2, [0, 35]⟩]))))), (20, .bool ((msgE 5 false 90 (vals ([⟨8, (some ⟨b1, 0, none⟩), 2, 2, [0, 35]⟩]))) == 0))] (by kernel_rfl) rfl ?_
 refine VL_known ((msgE 5 false 90 (vals ([⟨8, (some ⟨b1, 0, none⟩), 2, 2, [0, 35]⟩]))) == 0) (fun bV => [(1, .slice A1 ((msgT 5 false 90 (vals ([⟨8, (some ⟨b1, 0, none⟩), 2, 2, [0, 35]⟩]))).length) c1), (3, .pointer (some ⟨b3, 0, none⟩)), (4, .int .i64 (muE (msgT 5 false 90 (vals ([⟨8, (some ⟨b1, 0, none⟩), 2, 2, [0, 35]⟩]))))), (20, .bool bV)]) true rfl (by first | rfl | (simp only [awkM.2, beq_self_eq_true]; done) | (rw [awkM.1]; rfl) | (rw [awkU.1]; rfl) | (rw [awkM.2]; rfl) | (rw [awkU.2.1]; rfl) | (rw [hv1, awkU.2.2, awkC]; rfl)) ?_
 refine VL_pure 7 [1, 3, 24] [(1, .slice A1 ((msgT 5 false 90 (vals ([⟨8, (some ⟨b1, 0, none⟩), 2, 2, [0, 35]⟩]))).length) c1), (3, .pointer (some ⟨b3, 0, none⟩)), (24, .bool ((muE (msgT 5 false 90 (vals ([⟨8, (some ⟨b1, 0, none⟩), 2, 2, [0, 35]⟩])))) == 0))] (by kernel_rfl) rfl ?_
 refine VL_known ((muE (msgT 5 false 90 (vals ([⟨8, (some ⟨b1, 0, none⟩), 2, 2, [0, 35]⟩])))) == 0) (fun bV => [(1, .slice A1 ((msgT 5 false 90 (vals ([⟨8, (some ⟨b1, 0, none⟩), 2, 2, [0, 35]⟩]))).length) c1), (3, .pointer (some ⟨b3, 0, none⟩)), (24, .bool bV)]) true rfl (by first | rfl | (simp only [awkM.2, beq_self_eq_true]; done) | (rw [awkM.1]; rfl) | (rw [awkU.1]; rfl) | (rw [awkM.2]; rfl) | (rw [awkU.2.1]; rfl) | (rw [hv1, awkU.2.2, awkC]; rfl)) ?_
 refine VL_pure 8 [3, 24, 25] [(3, .pointer (some ⟨b3, 0, none⟩)), (24, .bool true), (25, .slice A1 ((msgT 5 false 90 (vals ([⟨8, (some ⟨b1, 0, none⟩), 2, 2, [0, 35]⟩]))).length) c1)] (by kernel_rfl) rfl ?_
 have hzs6 := hS.size
 have hzl8 := ho1.lt
 have hzl9 := ho2.lt
 have hzk3 := hbase1
 have hzk4 := hleli1
 have hzl10 := ho4.lt
 refine VL_bs (d := 26) (e := 5) (c := #[.int .u8 9, .int .u8 3, .int .u8 0, .int .u8 0, .int .u8 5, .int .u8 90, .int .u8 128, .int .u8 0, .int .u8 6, .int .u8 8, .int .u8 128, .int .u8 0, .int .u8 2, .int .u8 0, .int .u8 35]) (len := 15) (by kernel_rfl) (by kernel_rfl) ?_
 intro b4 w7 hn4
 replace hS := Step.trans hS (hn4.step No)
 replace ho1 := ho1.no (hn4.step No)
 replace ho2 := ho2.no (hn4.step No)
 replace hbase1 := Nat.le_trans hbase1 (hn4.step No).size
 replace hr1 := hr1.no (hn4.step No)
 replace hV1 := hV1.no (hn4.step No)
 replace hleli1 := Nat.le_trans hleli1 (hn4.step No).size
 replace ho4 := ho4.no (hn4.step No)
 have ho5 := hn4.own
 have hzhn4 := hn4.size
 have hqhn4 := hn4.eqb
 have hzs7 := hS.size
 have hzl11 := ho1.lt
 have hzl12 := ho2.lt
 have hzl13 := ho4.lt
 have hzl14 := ho5.lt
 refine VL_call (d := 27) (f := 15) (args := #[.slice A1 ((msgT 5 false 90 (vals ([⟨8, (some ⟨b1, 0, none⟩), 2, 2, [0, 35]⟩]))).length) c1, .slice (some ⟨b4, 0, none⟩) 15 15]) (by kernel_rfl) (by kernel_rfl) (by kernel_rfl) Try.call15 (same_any A1 ((msgT 5 false 90 (vals ([⟨8, (some ⟨b1, 0, none⟩), 2, 2, [0, 35]⟩]))).length) c1 _ (msgT 5 false 90 (vals ([⟨8, (some ⟨b1, 0, none⟩), 2, 2, [0, 35]⟩]))) (some ⟨b4, 0, none⟩) 15 15 _ ([9, 3, 0, 0, 5, 90, 128, 0, 6, 8, 128, 0, 2, 0, 35]) _ (Rw.lenI hr1) (Rw.slI hr1) rfl (Own.sl ho5 ho5.lt) (by omega) (by omega) (by first | exact Nat.le_refl _ | omega) (by first | exact Nat.le_refl _ | omega)) ?_
 rintro _ w8 ⟨rfl, hc3⟩
 replace hS := Step.trans hS hc3
 replace ho1 := ho1.no hc3
 replace ho2 := ho2.no hc3
 replace hbase1 := Nat.le_trans hbase1 (hc3).size
 replace hr1 := hr1.no hc3
 replace hV1 := hV1.no hc3
 replace hleli1 := Nat.le_trans hleli1 (hc3).size
 replace ho4 := ho4.no hc3
 replace ho5 := ho5.no hc3
 refine VL_pure 12 [3, 29] [(3, .pointer (some ⟨b3, 0, none⟩)), (29, .bool ((msgT 5 false 90 (vals ([⟨8, (some ⟨b1, 0, none⟩), 2, 2, [0, 35]⟩]))) == ([9, 3, 0, 0, 5, 90, 128, 0, 6, 8, 128, 0, 2, 0, 35])))] (by kernel_rfl) rfl ?_
 refine VL_known ((msgT 5 false 90 (vals ([⟨8, (some ⟨b1, 0, none⟩), 2, 2, [0, 35]⟩]))) == ([9, 3, 0, 0, 5, 90, 128, 0, 6, 8, 128, 0, 2, 0, 35])) (fun bV => [(3, .pointer (some ⟨b3, 0, none⟩)), (29, .bool bV)]) true rfl (by first | rfl | (simp only [awkM.2, beq_self_eq_true]; done) | (rw [awkM.1]; rfl) | (rw [awkU.1]; rfl) | (rw [awkM.2]; rfl) | (rw [awkU.2.1]; rfl) | (rw [hv1, awkU.2.2, awkC]; rfl)) ?_
 refine VL_pure 13 [3, 29, 30] [(3, .pointer (some ⟨b3, 0, none⟩)), (29, .bool true), (30, .pointer (some ⟨b3, 0, none⟩))] (by kernel_rfl) rfl ?_
 refine VL_load (d := 31) (t := 3) (a := ⟨b3, 0, none⟩) (v := .int .i64 (muR (msgT 5 false 90 (vals ([⟨8, (some ⟨b1, 0, none⟩), 2, 2, [0, 35]⟩]))))) (by kernel_rfl) (by kernel_rfl) (Loads.own1 ho4 (by kernel_rfl) (by rfl)) ?_
 refine VL_pure 17 [3, 34] [(3, .pointer (some ⟨b3, 0, none⟩)), (34, .bool ((muR (msgT 5 false 90 (vals ([⟨8, (some ⟨b1, 0, none⟩), 2, 2, [0, 35]⟩])))) == 5))] (by kernel_rfl) rfl ?_
 refine VL_known ((muR (msgT 5 false 90 (vals ([⟨8, (some ⟨b1, 0, none⟩), 2, 2, [0, 35]⟩])))) == 5) (fun bV => [(3, .pointer (some ⟨b3, 0, none⟩)), (34, .bool bV)]) true rfl (by first | rfl | (simp only [awkM.2, beq_self_eq_true]; done) | (rw [awkM.1]; rfl) | (rw [awkU.1]; rfl) | (rw [awkM.2]; rfl) | (rw [awkU.2.1]; rfl) | (rw [hv1, awkU.2.2, awkC]; rfl)) ?_
 refine VL_load (d := 35) (t := 24) (a := ⟨b3, 0, none⟩) (v := .agg #[.int .i64 (muR (msgT 5 false 90 (vals ([⟨8, (some ⟨b1, 0, none⟩), 2, 2, [0, 35]⟩])))), .bool (muB (msgT 5 false 90 (vals ([⟨8, (some ⟨b1, 0, none⟩), 2, 2, [0, 35]⟩])))), .int .i64 (muK (msgT 5 false 90 (vals ([⟨8, (some ⟨b1, 0, none⟩), 2, 2, [0, 35]⟩])))), .slice Ai1 li1.length ci1]) (by kernel_rfl) (by kernel_rfl) (Loads.ownL ho4 (n := 4) (by kernel_rfl) (by kernel_rfl) (by kernel_rfl)) ?_
 have hzs8 := hS.size
 have hzl15 := ho1.lt
 have hzl16 := ho2.lt
 have hzl17 := ho4.lt
 have hzl18 := ho5.lt
 refine VL_call (d := 36) (f := 20) (by kernel_rfl) (by kernel_rfl) (by kernel_rfl) Try.call20 (mcause_any (muR (msgT 5 false 90 (vals ([⟨8, (some ⟨b1, 0, none⟩), 2, 2, [0, 35]⟩])))) (muB (msgT 5 false 90 (vals ([⟨8, (some ⟨b1, 0, none⟩), 2, 2, [0, 35]⟩])))) (muK (msgT 5 false 90 (vals ([⟨8, (some ⟨b1, 0, none⟩), 2, 2, [0, 35]⟩])))) Ai1 li1.length ci1 w3.heap.size w4.heap.size li1 _ rfl hV1 (by omega) (by first | exact Nat.le_refl _ | omega) hibli1 (fun x hx => by have hq9 := hsmli1 x hx; omega)) ?_
 rintro _ w9 ⟨rfl, hc4⟩
 replace hS := Step.trans hS hc4
 replace ho1 := ho1.no hc4
 replace ho2 := ho2.no hc4
 replace hbase1 := Nat.le_trans hbase1 (hc4).size
 replace hr1 := hr1.no hc4
 replace hV1 := hV1.no hc4
 replace hleli1 := Nat.le_trans hleli1 (hc4).size
 replace ho4 := ho4.no hc4
 replace ho5 := ho5.no hc4
 refine VL_pure 22 [0] [(0, .bool ((mcause (vals li1)) == 35))] (by kernel_rfl) rfl ?_
 refine VL_end (by kernel_rfl) ?_
 refine VQ_next ?_
 refine VC_ret ?_
 refine VQ_ret1 (.bool ((mcause (vals li1)) == 35)) (.inr rfl) rfl rfl ?_
 exact ⟨by first | rfl | (congr 1; rw [hv1, awkU.2.2, awkC]; rfl), hS⟩

end Go.Proofs.Ytejpcmjokamdcaa
