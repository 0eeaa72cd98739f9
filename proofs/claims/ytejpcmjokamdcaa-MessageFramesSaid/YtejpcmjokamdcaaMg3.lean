import Derived.Test.YtejpcmjokamdcaaProg
import Derived.Test.YtejpcmjokamdcaaMg2
section
/- Layer 15: Unpack, both; Same, Find. -/
set_option linter.unusedVariables false
set_option linter.unusedSimpArgs false
namespace Go.Proofs.Ytejpcmjokamdcaa
open Go.Vc Go.RowKit

set_option maxRecDepth 100000 in
set_option maxHeartbeats 4000000 in
theorem same15_any (A : Option Addr) (n c lo hi : Nat) (l : List IeV) (w : World) (hn : l.length = n) (hA : Ies w lo hi A l) (A' : Option Addr) (n' c' lo' hi' : Nat) (l' : List IeV) (hn' : l'.length = n') (hA' : Ies w lo' hi' A' l') (hlen : n ≤ 1000000) (hl1 : ∀ x ∈ l, x.n < 1000000) (hl2 : ∀ x ∈ l', x.n < 1000000) (hhi : hi ≤ w.heap.size) (hhi' : hi' ≤ w.heap.size) :
  CV Try.prog 34 #[.slice A n c, .slice A' n' c'] w (fun x w1 => x = .bool (vals l == vals l') ∧ Step No w w1) := by
 have hS : Step No w w := Step.refl _ _
 refine CV_enter Try.f34 _ 42 [(0, .slice A n c), (1, .slice A' n' c')] Try.func34 rfl rfl (by kernel_rfl) rfl ?_
 refine VC_seq ?_
 refine VC_region ?_
 refine VL_pure 1 [0, 1] [(0, .slice A n c), (1, .slice A' n' c')] (by kernel_rfl) rfl ?_
 refine VL_end (by kernel_rfl) ?_
 refine VQ_next ?_
 refine VC_seq ?_
 refine VC_seq ?_
 refine VC_region ?_
 refine VL_pure 5 [0, 1, 10] [(0, .slice A n c), (1, .slice A' n' c'), (10, .bool (((n : Nat) : Int) != ((n' : Nat) : Int)))] (by kernel_rfl) rfl ?_
 refine VL_end (by kernel_rfl) ?_
 refine VQ_next ?_
 refine VC_ne ((n : Nat) : Int) ((n' : Nat) : Int) (by kernel_rfl) (fun h1 => ?_) (fun h1 => ?_)
 ·refine VC_seq ?_
  refine VC_region ?_
  refine VL_pure 1 [4] [(4, .bool false)] (by kernel_rfl) rfl ?_
  refine VL_end (by kernel_rfl) ?_
  refine VQ_next ?_
  refine VC_ret ?_
  refine VQ_then_ret ?_
  refine VQ_ret1 (.bool false) (.inr rfl) rfl rfl ?_
  first | exact ⟨congrArg Value.bool (Eq.symm (vals_nel hn hn' (by omega))), hS⟩ | exact ⟨congrArg Value.bool (Eq.symm (vals_ne hx1 hx2 (by simp_all))), hS⟩
 ·refine VC_skip ?_
  refine VQ_next ?_
  refine VC_seq ?_
  refine VC_seq ?_
  refine VC_region ?_
  refine VL_pure 3 [0, 1, 12, 13] [(0, .slice A n c), (1, .slice A' n' c'), (12, .int .i64 ((n : Nat) : Int)), (13, .int .i64 0)] (by kernel_rfl) rfl ?_
  refine VL_end (by kernel_rfl) ?_
  refine VQ_next ?_
  refine VC_block ?_
  refine VC_loop (σ := Nat) (fun σs => [(0, .slice A n c), (1, .slice A' n' c'), (12, .int .i64 ((n : Nat) : Int)), (13, .int .i64 ((σs : Nat) : Int))]) (fun σs w1 => (σs ≤ n) ∧ (∀ j x y, j < σs → l[j]? = some x → l'[j]? = some y → x.id = y.id ∧ x.bs = y.bs) ∧ (Step No w w1) ∧ (Ies w1 lo hi A l) ∧ (Ies w1 lo' hi' A' l')) (fun σs w1 => n - σs) 0 ⟨rfl, rfl, rfl, rfl, trivial⟩ ?_ ?_
  ·exact ⟨Nat.zero_le _, fun i x y hi => absurd hi (Nat.not_lt_zero _), hS, hA, hA'⟩
  rintro i w1 ⟨hi, hz, hS, hA, hA'⟩
  try dsimp only at hi hz hS hA hA' ⊢
  refine VC_seq ?_
  refine VC_region ?_
  refine VL_pure 1 [0, 1, 12, 13, 14] [(0, .slice A n c), (1, .slice A' n' c'), (12, .int .i64 ((n : Nat) : Int)), (13, .int .i64 ((i : Nat) : Int)), (14, .bool (decide (((i : Nat) : Int) < ((n : Nat) : Int))))] (by kernel_rfl) rfl ?_
  refine VL_end (by kernel_rfl) ?_
  refine VQ_next ?_
  refine VC_seq ?_
  refine VC_dec (((i : Nat) : Int) < ((n : Nat) : Int)) (by kernel_rfl) (fun h2 => ?_) (fun h2 => ?_)
  ·refine VC_skip ?_
   refine VQ_next ?_
   refine VC_seq ?_
   refine VC_block ?_
   refine VC_seq ?_
   refine VC_region ?_
   refine VL_pure 2 [0, 1, 12, 13, 5] [(0, .slice A n c), (1, .slice A' n' c'), (12, .int .i64 ((n : Nat) : Int)), (13, .int .i64 ((i : Nat) : Int)), (5, .int .i64 ((i : Nat) : Int))] (by kernel_rfl) rfl ?_
   refine VL_end (by kernel_rfl) ?_
   refine VQ_next ?_
   refine VC_seq ?_
   obtain ⟨sb1, so1, rfl, hlbsb1⟩ := hA.open (by omega)
   obtain ⟨sb2, so2, rfl, hlbsb2⟩ := hA'.open (by omega)
   have hs1 := drew_step w1
   have hs1z : w1.heap.size = w1.drew.heap.size := rfl
   refine VC_text [[], [], [0, 1], [0, 1, 2], [0, 1, 2, 3], [], [], [5, 6], [5, 6, 7], [5, 6, 7, 8], [0, 1, 2, 3, 4, 5, 6, 7, 8, 9], [0, 1, 2, 3, 4, 5, 6, 7, 8, 9, 10], [0, 1, 2, 3, 4, 5, 6, 7, 8, 9, 10, 11], [0, 1, 2, 3, 4, 5, 6, 7, 8, 9, 10, 11], [0, 1, 2, 3, 4, 5, 6, 7, 8, 9, 10, 11, 12, 13], [0, 1, 2, 3, 4, 5, 6, 7, 8, 9, 10, 11, 12, 13, 14], [0, 1, 2, 3, 4, 5, 6, 7, 8, 9, 10, 11, 12, 13, 14, 15], [0, 1, 2, 3, 4, 5, 6, 7, 8, 9, 10, 11], [0, 1, 2, 3, 4, 5, 6, 7, 8, 9, 10, 11], [0, 1, 2, 3, 4, 5, 6, 7, 8, 9, 10, 11, 17, 18], [0, 1, 2, 3, 4, 5, 6, 7, 8, 9, 10, 11, 17, 18, 19], [0, 1, 2, 3, 4, 5, 6, 7, 8, 9, 10, 11, 17, 18, 19, 20], [0, 1, 2, 3, 4, 5, 6, 7, 8, 9, 10, 11, 12, 13, 14, 15, 16, 17, 18, 19, 20, 21], [0, 1, 2, 3, 4, 5, 6, 7, 8, 9, 10, 11, 12, 13, 14, 15, 16, 17, 18, 19, 20, 21, 22], [0, 1, 2, 3, 4, 5, 6, 7, 8, 9, 10, 11, 12, 13, 14, 15, 16, 17, 18, 19, 20, 21, 22, 23]] 22 (fun x y => Step (fun k => w1.heap.size ≤ k) x y) [] [0, 1, 2, 3, 4, 5, 6, 7, 8, 9, 10, 11, 12, 13, 14, 15, 16, 17, 18, 19, 20, 21] (by kernel_rfl) (by kernel_rfl) (by kernel_rfl) (by kernel_rfl) (fun x => Step.refl _ x) (fun h k => Step.trans h k) Step.weak ?_
   have hzs1 := hS.size
   generalize w1.drew = w2 at hs1 hs1z ⊢
   replace hS := Step.trans hS hs1
   replace hA := hA.no hs1
   replace hA' := hA'.no hs1
   refine VT_pures 2 (kn' := [(1, .int .i64 ((i : Nat) : Int)), (0, .slice (some ⟨sb1, so1, none⟩) n c)]) (by kernel_rfl) ?_
   refine VT_index (d := 18) (b := sb1) (o := so1) (len := n) (sz := 2) (mm := ((i : Nat) : Int)) (by kernel_rfl) (by kernel_rfl) i (by rfl) (by omega) (so1 + i * 2) (by omega) ?_
   refine VT_pures 1 (kn' := [(3, .pointer (some ⟨sb1, so1 + i * 2, none⟩)), (2, .pointer (some ⟨sb1, so1 + i * 2, none⟩)), (1, .int .i64 ((i : Nat) : Int)), (0, .slice (some ⟨sb1, so1, none⟩) n c)]) (by kernel_rfl) ?_
   obtain ⟨⟨x1i, x1A, x1n, x1c, x1b⟩, hx1⟩ : ∃ x, l[i]? = some x := ⟨_, List.getElem?_eq_getElem (by omega)⟩
   obtain ⟨hnx1, hcx1, hbx1⟩ := Ies.body hA hx1
   dsimp only at hnx1 hcx1 hbx1
   refine VT_load (d := 20) (t := 5) (a := ⟨sb1, so1 + i * 2, none⟩) (v := .int .u8 x1i) (by kernel_rfl) (by kernel_rfl) ?_ ?_
   ·intro w3 hr1
    replace hS := Step.transNew hS hr1 (fun i hi hG => by (try simp only at hG); omega)
    replace hA := hA.step hr1 (fun k hk1 hk2 hG => by (try simp only at hG); omega)
    replace hA' := hA'.step hr1 (fun k hk1 hk2 hG => by (try simp only at hG); omega)
    replace hbx1 := hbx1.step hr1 (fun k hk hG => by (try simp only at hG); omega)
    exact (Ies.ld0 hA (by kernel_rfl) hx1)
   refine VT_pures 2 (kn' := [(6, .int .i64 ((i : Nat) : Int)), (5, .slice (some ⟨sb2, so2, none⟩) n' c'), (4, .int .u8 x1i), (3, .pointer (some ⟨sb1, so1 + i * 2, none⟩)), (2, .pointer (some ⟨sb1, so1 + i * 2, none⟩)), (1, .int .i64 ((i : Nat) : Int)), (0, .slice (some ⟨sb1, so1, none⟩) n c)]) (by kernel_rfl) ?_
   refine VT_index (d := 23) (b := sb2) (o := so2) (len := n') (sz := 2) (mm := ((i : Nat) : Int)) (by kernel_rfl) (by kernel_rfl) i (by rfl) (by omega) (so2 + i * 2) (by omega) ?_
   refine VT_pures 1 (kn' := [(8, .pointer (some ⟨sb2, so2 + i * 2, none⟩)), (7, .pointer (some ⟨sb2, so2 + i * 2, none⟩)), (6, .int .i64 ((i : Nat) : Int)), (5, .slice (some ⟨sb2, so2, none⟩) n' c'), (4, .int .u8 x1i), (3, .pointer (some ⟨sb1, so1 + i * 2, none⟩)), (2, .pointer (some ⟨sb1, so1 + i * 2, none⟩)), (1, .int .i64 ((i : Nat) : Int)), (0, .slice (some ⟨sb1, so1, none⟩) n c)]) (by kernel_rfl) ?_
   obtain ⟨⟨x2i, x2A, x2n, x2c, x2b⟩, hx2⟩ : ∃ x, l'[i]? = some x := ⟨_, List.getElem?_eq_getElem (by omega)⟩
   obtain ⟨hnx2, hcx2, hbx2⟩ := Ies.body hA' hx2
   dsimp only at hnx2 hcx2 hbx2
   refine VT_load (d := 25) (t := 5) (a := ⟨sb2, so2 + i * 2, none⟩) (v := .int .u8 x2i) (by kernel_rfl) (by kernel_rfl) ?_ ?_
   ·intro w4 hr2
    replace hS := Step.transNew hS hr2 (fun i hi hG => by (try simp only at hG); omega)
    replace hA := hA.step hr2 (fun k hk1 hk2 hG => by (try simp only at hG); omega)
    replace hA' := hA'.step hr2 (fun k hk1 hk2 hG => by (try simp only at hG); omega)
    replace hbx1 := hbx1.step hr2 (fun k hk hG => by (try simp only at hG); omega)
    replace hbx2 := hbx2.step hr2 (fun k hk hG => by (try simp only at hG); omega)
    exact (Ies.ld0 hA' (by kernel_rfl) hx2)
   refine VT_pures 2 (kn' := [(11, .bool (x1i != x2i)), (10, .bool (x1i != x2i)), (9, .int .u8 x2i), (8, .pointer (some ⟨sb2, so2 + i * 2, none⟩)), (7, .pointer (some ⟨sb2, so2 + i * 2, none⟩)), (6, .int .i64 ((i : Nat) : Int)), (5, .slice (some ⟨sb2, so2, none⟩) n' c'), (4, .int .u8 x1i), (3, .pointer (some ⟨sb1, so1 + i * 2, none⟩)), (2, .pointer (some ⟨sb1, so1 + i * 2, none⟩)), (1, .int .i64 ((i : Nat) : Int)), (0, .slice (some ⟨sb1, so1, none⟩) n c)]) (by kernel_rfl) ?_
   rcases Bool.eq_false_or_eq_true (x1i != x2i) with hg1 | hg1
   ·refine VT_eq [(11, .bool true), (10, .bool true), (9, .int .u8 x2i), (8, .pointer (some ⟨sb2, so2 + i * 2, none⟩)), (7, .pointer (some ⟨sb2, so2 + i * 2, none⟩)), (6, .int .i64 ((i : Nat) : Int)), (5, .slice (some ⟨sb2, so2, none⟩) n' c'), (4, .int .u8 x1i), (3, .pointer (some ⟨sb1, so1 + i * 2, none⟩)), (2, .pointer (some ⟨sb1, so1 + i * 2, none⟩)), (1, .int .i64 ((i : Nat) : Int)), (0, .slice (some ⟨sb1, so1, none⟩) n c)] (by simp only [hg1, Bool.not_true, Bool.not_false]) ?_
    try simp only [bne_iff_ne, beq_iff_eq, decide_eq_true_eq, decide_eq_false_iff_not, bne_eq_false_iff_eq, beq_eq_false_iff_ne, ne_eq] at hg1
    refine VT_pures 10 (kn' := [(21, undef), (20, undef), (19, undef), (18, undef), (17, undef), (16, undef), (15, undef), (14, undef), (13, undef), (12, undef), (11, .bool true), (10, .bool true), (9, .int .u8 x2i), (8, .pointer (some ⟨sb2, so2 + i * 2, none⟩)), (7, .pointer (some ⟨sb2, so2 + i * 2, none⟩)), (6, .int .i64 ((i : Nat) : Int)), (5, .slice (some ⟨sb2, so2, none⟩) n' c'), (4, .int .u8 x1i), (3, .pointer (some ⟨sb1, so1 + i * 2, none⟩)), (2, .pointer (some ⟨sb1, so1 + i * 2, none⟩)), (1, .int .i64 ((i : Nat) : Int)), (0, .slice (some ⟨sb1, so1, none⟩) n c)]) (by kernel_rfl) ?_
    refine VT_end ?_
    intro w5 hs2
    replace hS := Step.trans hS hs2
    replace hA := hA.no hs2
    replace hA' := hA'.no hs2
    replace hbx1 := hbx1.no hs2
    replace hbx2 := hbx2.no hs2
    refine VL_keep [0, 1, 12, 13, 27, 32, 37] [(0, .slice (some ⟨sb1, so1, none⟩) n c), (1, .slice (some ⟨sb2, so2, none⟩) n' c'), (12, .int .i64 ((n : Nat) : Int)), (13, .int .i64 ((i : Nat) : Int)), (27, .bool true), (32, undef), (37, undef)] (by kernel_rfl) ?_
    refine VL_pure 25 [0, 1, 12, 13, 40] [(0, .slice (some ⟨sb1, so1, none⟩) n c), (1, .slice (some ⟨sb2, so2, none⟩) n' c'), (12, .int .i64 ((n : Nat) : Int)), (13, .int .i64 ((i : Nat) : Int)), (40, .bool true)] (by kernel_rfl) rfl ?_
    refine VL_end (by kernel_rfl) ?_
    refine VQ_next ?_
    refine VC_true (by kernel_rfl) ?_
    refine VC_seq ?_
    refine VC_region ?_
    refine VL_pure 1 [4] [(4, .bool false)] (by kernel_rfl) rfl ?_
    refine VL_end (by kernel_rfl) ?_
    refine VQ_next ?_
    refine VC_ret ?_
    refine VQ_block_ret ?_
    refine VQ_then_ret ?_
    refine VQ_then_ret ?_
    refine VQ_block_ret ?_
    refine VQ_then_ret ?_
    refine VQ_ret1 (.bool false) (.inr rfl) rfl rfl ?_
    first | exact ⟨congrArg Value.bool (Eq.symm (vals_nel hn hn' (by omega))), hS⟩ | exact ⟨congrArg Value.bool (Eq.symm (vals_ne hx1 hx2 (by simp_all))), hS⟩
   ·refine VT_eq [(11, .bool false), (10, .bool false), (9, .int .u8 x2i), (8, .pointer (some ⟨sb2, so2 + i * 2, none⟩)), (7, .pointer (some ⟨sb2, so2 + i * 2, none⟩)), (6, .int .i64 ((i : Nat) : Int)), (5, .slice (some ⟨sb2, so2, none⟩) n' c'), (4, .int .u8 x1i), (3, .pointer (some ⟨sb1, so1 + i * 2, none⟩)), (2, .pointer (some ⟨sb1, so1 + i * 2, none⟩)), (1, .int .i64 ((i : Nat) : Int)), (0, .slice (some ⟨sb1, so1, none⟩) n c)] (by simp only [hg1, Bool.not_true, Bool.not_false]) ?_
    try simp only [bne_iff_ne, beq_iff_eq, decide_eq_true_eq, decide_eq_false_iff_not, bne_eq_false_iff_eq, beq_eq_false_iff_ne, ne_eq] at hg1
    refine VT_pures 2 (kn' := [(13, .int .i64 ((i : Nat) : Int)), (12, .slice (some ⟨sb1, so1, none⟩) n c), (11, .bool false), (10, .bool false), (9, .int .u8 x2i), (8, .pointer (some ⟨sb2, so2 + i * 2, none⟩)), (7, .pointer (some ⟨sb2, so2 + i * 2, none⟩)), (6, .int .i64 ((i : Nat) : Int)), (5, .slice (some ⟨sb2, so2, none⟩) n' c'), (4, .int .u8 x1i), (3, .pointer (some ⟨sb1, so1 + i * 2, none⟩)), (2, .pointer (some ⟨sb1, so1 + i * 2, none⟩)), (1, .int .i64 ((i : Nat) : Int)), (0, .slice (some ⟨sb1, so1, none⟩) n c)]) (by kernel_rfl) ?_
    refine VT_index (d := 30) (b := sb1) (o := so1) (len := n) (sz := 2) (mm := ((i : Nat) : Int)) (by kernel_rfl) (by kernel_rfl) i (by rfl) (by omega) (so1 + i * 2) (by omega) ?_
    refine VT_pures 1 (kn' := [(15, .pointer (some ⟨sb1, so1 + i * 2 + 1, none⟩)), (14, .pointer (some ⟨sb1, so1 + i * 2, none⟩)), (13, .int .i64 ((i : Nat) : Int)), (12, .slice (some ⟨sb1, so1, none⟩) n c), (11, .bool false), (10, .bool false), (9, .int .u8 x2i), (8, .pointer (some ⟨sb2, so2 + i * 2, none⟩)), (7, .pointer (some ⟨sb2, so2 + i * 2, none⟩)), (6, .int .i64 ((i : Nat) : Int)), (5, .slice (some ⟨sb2, so2, none⟩) n' c'), (4, .int .u8 x1i), (3, .pointer (some ⟨sb1, so1 + i * 2, none⟩)), (2, .pointer (some ⟨sb1, so1 + i * 2, none⟩)), (1, .int .i64 ((i : Nat) : Int)), (0, .slice (some ⟨sb1, so1, none⟩) n c)]) (by kernel_rfl) ?_
    refine VT_load (d := 32) (t := 25) (a := ⟨sb1, so1 + i * 2 + 1, none⟩) (v := .slice x1A x1n x1c) (by kernel_rfl) (by kernel_rfl) ?_ ?_
    ·intro w6 hr3
     replace hS := Step.transNew hS hr3 (fun i hi hG => by (try simp only at hG); omega)
     replace hA := hA.step hr3 (fun k hk1 hk2 hG => by (try simp only at hG); omega)
     replace hA' := hA'.step hr3 (fun k hk1 hk2 hG => by (try simp only at hG); omega)
     replace hbx1 := hbx1.step hr3 (fun k hk hG => by (try simp only at hG); omega)
     replace hbx2 := hbx2.step hr3 (fun k hk hG => by (try simp only at hG); omega)
     exact (Ies.ld1 hA (by kernel_rfl) hx1)
    refine VT_pures 2 (kn' := [(18, .int .i64 ((i : Nat) : Int)), (17, .slice (some ⟨sb2, so2, none⟩) n' c'), (16, .slice x1A x1n x1c), (15, .pointer (some ⟨sb1, so1 + i * 2 + 1, none⟩)), (14, .pointer (some ⟨sb1, so1 + i * 2, none⟩)), (13, .int .i64 ((i : Nat) : Int)), (12, .slice (some ⟨sb1, so1, none⟩) n c), (11, .bool false), (10, .bool false), (9, .int .u8 x2i), (8, .pointer (some ⟨sb2, so2 + i * 2, none⟩)), (7, .pointer (some ⟨sb2, so2 + i * 2, none⟩)), (6, .int .i64 ((i : Nat) : Int)), (5, .slice (some ⟨sb2, so2, none⟩) n' c'), (4, .int .u8 x1i), (3, .pointer (some ⟨sb1, so1 + i * 2, none⟩)), (2, .pointer (some ⟨sb1, so1 + i * 2, none⟩)), (1, .int .i64 ((i : Nat) : Int)), (0, .slice (some ⟨sb1, so1, none⟩) n c)]) (by kernel_rfl) ?_
    refine VT_index (d := 35) (b := sb2) (o := so2) (len := n') (sz := 2) (mm := ((i : Nat) : Int)) (by kernel_rfl) (by kernel_rfl) i (by rfl) (by omega) (so2 + i * 2) (by omega) ?_
    refine VT_pures 1 (kn' := [(20, .pointer (some ⟨sb2, so2 + i * 2 + 1, none⟩)), (19, .pointer (some ⟨sb2, so2 + i * 2, none⟩)), (18, .int .i64 ((i : Nat) : Int)), (17, .slice (some ⟨sb2, so2, none⟩) n' c'), (16, .slice x1A x1n x1c), (15, .pointer (some ⟨sb1, so1 + i * 2 + 1, none⟩)), (14, .pointer (some ⟨sb1, so1 + i * 2, none⟩)), (13, .int .i64 ((i : Nat) : Int)), (12, .slice (some ⟨sb1, so1, none⟩) n c), (11, .bool false), (10, .bool false), (9, .int .u8 x2i), (8, .pointer (some ⟨sb2, so2 + i * 2, none⟩)), (7, .pointer (some ⟨sb2, so2 + i * 2, none⟩)), (6, .int .i64 ((i : Nat) : Int)), (5, .slice (some ⟨sb2, so2, none⟩) n' c'), (4, .int .u8 x1i), (3, .pointer (some ⟨sb1, so1 + i * 2, none⟩)), (2, .pointer (some ⟨sb1, so1 + i * 2, none⟩)), (1, .int .i64 ((i : Nat) : Int)), (0, .slice (some ⟨sb1, so1, none⟩) n c)]) (by kernel_rfl) ?_
    refine VT_load (d := 37) (t := 25) (a := ⟨sb2, so2 + i * 2 + 1, none⟩) (v := .slice x2A x2n x2c) (by kernel_rfl) (by kernel_rfl) ?_ ?_
    ·intro w7 hr4
     replace hS := Step.transNew hS hr4 (fun i hi hG => by (try simp only at hG); omega)
     replace hA := hA.step hr4 (fun k hk1 hk2 hG => by (try simp only at hG); omega)
     replace hA' := hA'.step hr4 (fun k hk1 hk2 hG => by (try simp only at hG); omega)
     replace hbx1 := hbx1.step hr4 (fun k hk hG => by (try simp only at hG); omega)
     replace hbx2 := hbx2.step hr4 (fun k hk hG => by (try simp only at hG); omega)
     exact (Ies.ld1 hA' (by kernel_rfl) hx2)
    refine VT_end ?_
    intro w8 hs3
    replace hS := Step.trans hS hs3
    replace hA := hA.no hs3
    replace hA' := hA'.no hs3
    replace hbx1 := hbx1.no hs3
    replace hbx2 := hbx2.no hs3
    refine VL_keep [0, 1, 12, 13, 27, 32, 37] [(0, .slice (some ⟨sb1, so1, none⟩) n c), (1, .slice (some ⟨sb2, so2, none⟩) n' c'), (12, .int .i64 ((n : Nat) : Int)), (13, .int .i64 ((i : Nat) : Int)), (27, .bool false), (32, .slice x1A x1n x1c), (37, .slice x2A x2n x2c)] (by kernel_rfl) ?_
    have hzs2 := hS.size
    refine VL_call (d := 38) (f := 15) (args := #[.slice x1A x1n x1c, .slice x2A x2n x2c]) (by kernel_rfl) (by kernel_rfl) (by kernel_rfl) Try.call15 (same_any x1A x1n x1c _ x1b x2A x2n x2c _ x2b _ hnx1 hbx1 hnx2 hbx2 (hl1 _ (List.mem_of_getElem? hx1)) (hl2 _ (List.mem_of_getElem? hx2)) (by first | exact Nat.le_refl _ | omega) (by first | exact Nat.le_refl _ | omega)) ?_
    rintro _ w9 ⟨rfl, hc1⟩
    replace hS := Step.trans hS hc1
    replace hA := hA.no hc1
    replace hA' := hA'.no hc1
    replace hbx1 := hbx1.no hc1
    replace hbx2 := hbx2.no hc1
    refine VL_pure 25 [0, 1, 12, 13, 40] [(0, .slice (some ⟨sb1, so1, none⟩) n c), (1, .slice (some ⟨sb2, so2, none⟩) n' c'), (12, .int .i64 ((n : Nat) : Int)), (13, .int .i64 ((i : Nat) : Int)), (40, .bool (!(x1b == x2b)))] (by kernel_rfl) rfl ?_
    refine VL_end (by kernel_rfl) ?_
    refine VQ_next ?_
    refine VC_cond (!(x1b == x2b)) (by kernel_rfl) (fun h3 => ?_) (fun h3 => ?_)
    ·try simp only [Bool.and_eq_true, Bool.or_eq_true, decide_eq_true_eq, Bool.not_eq_true', decide_eq_false_iff_not, Bool.and_eq_false_iff, Bool.or_eq_false_iff, beq_iff_eq, bne_iff_ne, beq_eq_false_iff_ne, bne_eq_false_iff_eq, Bool.not_eq_eq_eq_not, Bool.not_true, Bool.not_false] at h3
     refine VC_seq ?_
     refine VC_region ?_
     refine VL_pure 1 [4] [(4, .bool false)] (by kernel_rfl) rfl ?_
     refine VL_end (by kernel_rfl) ?_
     refine VQ_next ?_
     refine VC_ret ?_
     refine VQ_block_ret ?_
     refine VQ_then_ret ?_
     refine VQ_then_ret ?_
     refine VQ_block_ret ?_
     refine VQ_then_ret ?_
     refine VQ_ret1 (.bool false) (.inr rfl) rfl rfl ?_
     first | exact ⟨congrArg Value.bool (Eq.symm (vals_nel hn hn' (by omega))), hS⟩ | exact ⟨congrArg Value.bool (Eq.symm (vals_ne hx1 hx2 (by simp_all))), hS⟩
    ·try simp only [Bool.and_eq_true, Bool.or_eq_true, decide_eq_true_eq, Bool.not_eq_true', decide_eq_false_iff_not, Bool.and_eq_false_iff, Bool.or_eq_false_iff, beq_iff_eq, bne_iff_ne, beq_eq_false_iff_ne, bne_eq_false_iff_eq, Bool.not_eq_eq_eq_not, Bool.not_true, Bool.not_false] at h3
     refine VC_skip ?_
     refine VQ_block_normal ?_
     refine VQ_next ?_
     refine VC_region ?_
     refine VL_pure 1 [0, 1, 12, 41] [(0, .slice (some ⟨sb1, so1, none⟩) n c), (1, .slice (some ⟨sb2, so2, none⟩) n' c'), (12, .int .i64 ((n : Nat) : Int)), (41, .int .i64 (IntKind.wrap .i64 (((i : Nat) : Int) + 1)))] (by kernel_rfl) rfl ?_
     have he1 : IntKind.wrap .i64 (((i : Nat) : Int) + 1) = ((i + 1 : Nat) : Int) := (by rw [wrap_i64 _ (by omega) (by omega)]; omega)
     refine VL_eq [(0, .slice (some ⟨sb1, so1, none⟩) n c), (1, .slice (some ⟨sb2, so2, none⟩) n' c'), (12, .int .i64 ((n : Nat) : Int)), (41, .int .i64 ((i + 1 : Nat) : Int))] (by rw [he1]) ?_
     refine VL_pure 2 [0, 1, 12, 13] [(0, .slice (some ⟨sb1, so1, none⟩) n c), (1, .slice (some ⟨sb2, so2, none⟩) n' c'), (12, .int .i64 ((n : Nat) : Int)), (13, .int .i64 ((i + 1 : Nat) : Int))] (by kernel_rfl) rfl ?_
     refine VL_end (by kernel_rfl) ?_
     refine VQ_again (i + 1) ⟨rfl, rfl, rfl, rfl, trivial⟩ ?_ ?_
     ·exact ⟨(by omega), fun j x y hj g1 g2 => by rcases Nat.lt_succ_iff_lt_or_eq.1 hj with h9 | rfl; exact hz j x y h9 g1 g2; rw [hx1] at g1; rw [hx2] at g2; cases g1; cases g2; simp_all, hS, hA, hA'⟩
     ·(try dsimp only); omega
  ·refine VC_exit ?_
   refine VQ_then_exit ?_
   refine VQ_then_exit ?_
   refine VQ_block_hit ?_
   refine VQ_next ?_
   refine VC_seq ?_
   refine VC_region ?_
   refine VL_pure 1 [4] [(4, .bool true)] (by kernel_rfl) rfl ?_
   refine VL_end (by kernel_rfl) ?_
   refine VQ_next ?_
   refine VC_ret ?_
   refine VQ_ret1 (.bool true) (.inr rfl) rfl rfl ?_
   obtain rfl : i = n := by omega
   exact ⟨congrArg Value.bool (Eq.symm (vals_eq hn (by omega) hz)), hS⟩

set_option maxRecDepth 100000 in
set_option maxHeartbeats 4000000 in
theorem ieunp_any (A : Option Addr) (n c Bd : Nat) (bs : List Int) (w : World) (hn : bs.length = n) (hA : Sl w Bd A (iL .u8 bs)) (hc : n ≤ c) (hb : Bytes bs) (hlen : n ≤ 100000) (hBd : Bd ≤ w.heap.size) :
  CV Try.prog 31 #[.slice A n c] w (fun x w1 => UnR w w1 60 5 x bs) := by
 have hS : Step No w w := Step.refl _ _
 refine CV_enter Try.f31 _ 51 [(0, .slice A n c)] Try.func31 rfl rfl (by kernel_rfl) rfl ?_
 refine VC_seq ?_
 refine VC_region ?_
 refine VL_pure 2 [0] [(0, .slice A n c)] (by kernel_rfl) rfl ?_
 refine VL_end (by kernel_rfl) ?_
 refine VQ_next ?_
 refine VC_seq ?_
 obtain ⟨base, hbaseE⟩ : ∃ x, x = w.heap.size := ⟨_, rfl⟩
 have hbase : base ≤ w.heap.size := Nat.le_of_eq hbaseE
 refine VC_region ?_
 refine VL_pure 1 [0, 4] [(0, .slice A n c), (4, .slice none 0 0)] (by kernel_rfl) rfl ?_
 refine VL_end (by kernel_rfl) ?_
 refine VQ_next ?_
 refine VC_seq ?_
 refine VC_block ?_
 refine VC_loop (σ := (List Int) × (Option Addr) × Nat × Nat × (List IeV) × (Option Addr) × Nat × Nat) (fun σs => [(0, .slice σs.2.1 σs.2.2.1 σs.2.2.2.1), (4, .slice σs.2.2.2.2.2.1 σs.2.2.2.2.2.2.1 σs.2.2.2.2.2.2.2)]) (fun σs w1 => (σs.1.length = σs.2.2.1) ∧ (σs.2.2.1 ≤ σs.2.2.2.1) ∧ (σs.2.2.1 ≤ n) ∧ (σs.2.2.2.2.2.2.1 ≤ 16) ∧ (Bytes σs.1) ∧ (ieU (vals σs.2.2.2.2.1) σs.1 = ieU [] bs) ∧ (Step No w w1) ∧ (base ≤ w1.heap.size) ∧ (Sl w1 Bd σs.2.1 (iL .u8 σs.1)) ∧ (Ier w1 base 60 5 σs.2.2.2.2.2.1 σs.2.2.2.2.2.2.1 σs.2.2.2.2.2.2.2 σs.2.2.2.2.1)) (fun σs w1 => σs.2.2.1) ⟨bs, A, n, c, [], none, 0, 0⟩ ⟨rfl, rfl, trivial⟩ ?_ ?_
 ·exact ⟨hn, hc, Nat.le_refl _, (Nat.zero_le _), hb, rfl, hS, hbase, hA, Ier.nil _ _ _ _⟩
 rintro ⟨rs, Ar, mr, cr, ol, Ao, mo, co⟩ w1 ⟨hm, hcc, hm2, ho16, hby, hU, hS, hbase, hA1, hO⟩
 try dsimp only at hm hcc hm2 ho16 hby hU hS hbase hA1 hO ⊢
 have hol := hO.len
 refine VC_seq ?_
 refine VC_seq ?_
 refine VC_region ?_
 refine VL_pure 3 [0, 4, 8] [(0, .slice Ar mr cr), (4, .slice Ao mo co), (8, .bool (decide (((mr : Nat) : Int) > 0)))] (by kernel_rfl) rfl ?_
 refine VL_end (by kernel_rfl) ?_
 refine VQ_next ?_
 refine VC_dec (((mr : Nat) : Int) > 0) (by kernel_rfl) (fun h1 => ?_) (fun h1 => ?_)
 ·refine VC_skip ?_
  refine VQ_next ?_
  refine VC_block ?_
  refine VC_seq ?_
  refine VC_block ?_
  refine VC_seq ?_
  refine VC_region ?_
  refine VL_pure 4 [0, 4, 9] [(0, .slice Ar mr cr), (4, .slice Ao mo co), (9, .bool (((mo : Nat) : Int) == 16))] (by kernel_rfl) rfl ?_
  refine VL_end (by kernel_rfl) ?_
  refine VQ_next ?_
  refine VC_eq ((mo : Nat) : Int) 16 (by kernel_rfl) (fun h2 => ?_) (fun h2 => ?_)
  ·refine VC_seq ?_
   refine VC_region ?_
   refine VL_pure 2 [2, 3] [(2, .slice none 0 0), (3, .int .i64 6)] (by kernel_rfl) rfl ?_
   refine VL_end (by kernel_rfl) ?_
   refine VQ_next ?_
   refine VC_ret ?_
   refine VQ_block_ret ?_
   refine VQ_then_ret ?_
   refine VQ_block_ret ?_
   refine VQ_then_ret ?_
   refine VQ_block_ret ?_
   refine VQ_then_ret ?_
   refine VQ_ret2 (.slice none 0 0) (.int .i64 6) (.inr rfl) rfl rfl rfl ?_
   refine UnR.no (hU.symm.trans ?_) hS
   have hvl := vals_len ol
   first | exact ieU_16 (by omega) (by omega) | exact ieU_200 (by omega) (by omega) (by assumption) (by omega)
  ·refine VC_seq ?_
   refine VC_region ?_
   refine VL_pure 4 [0, 4, 13] [(0, .slice Ar mr cr), (4, .slice Ao mo co), (13, .bool (decide (((mr : Nat) : Int) < 4)))] (by kernel_rfl) rfl ?_
   refine VL_end (by kernel_rfl) ?_
   refine VQ_next ?_
   refine VC_dec (((mr : Nat) : Int) < 4) (by kernel_rfl) (fun h3 => ?_) (fun h3 => ?_)
   ·refine VC_seq ?_
    refine VC_region ?_
    refine VL_pure 2 [2, 3] [(2, .slice none 0 0), (3, .int .i64 2)] (by kernel_rfl) rfl ?_
    refine VL_end (by kernel_rfl) ?_
    refine VQ_next ?_
    refine VC_ret ?_
    refine VQ_block_ret ?_
    refine VQ_then_ret ?_
    refine VQ_block_ret ?_
    refine VQ_then_ret ?_
    refine VQ_block_ret ?_
    refine VQ_then_ret ?_
    refine VQ_ret2 (.slice none 0 0) (.int .i64 2) (.inr rfl) rfl rfl rfl ?_
    refine UnR.no (hU.symm.trans ?_) hS
    have hvl := vals_len ol
    first | exact ieU_4 (by omega) (by omega) (by omega) | exact ieU_short (by omega) (by omega) (by assumption) (by omega) (by omega)
   ·refine VC_seq ?_
    refine VC_region ?_
    refine VL_pure 1 [0, 4, 18] [(0, .slice Ar mr cr), (4, .slice Ao mo co), (18, .slice Ar mr cr)] (by kernel_rfl) rfl ?_
    obtain ⟨sb1, so1, rfl, hlbsb1⟩ := hA1.open (by simp only [iL_length]; omega)
    refine VL_index (d := 19) (b := sb1) (o := so1) (len := mr) (sz := 1) (m := 1) (by kernel_rfl) (by kernel_rfl) 1 (by rfl) (by omega) (so1 + 1) (by omega) ?_
    refine VL_load (d := 20) (t := 5) (a := ⟨sb1, so1 + 1, none⟩) (v := .int .u8 (rs.getD 1 0)) (by kernel_rfl) (by kernel_rfl) (Sl.ldI hA1 (by kernel_rfl) 1 (by (try simp only [List.length_set, List.length_append, List.length_map, List.length_replicate, List.length_cons, List.length_nil, List.length_take, List.length_drop, List.length_range]) <;> omega)) ?_
    refine VL_pure 5 [0, 4, 17] [(0, .slice (some ⟨sb1, so1, none⟩) mr cr), (4, .slice Ao mo co), (17, .bool ((rs.getD 1 0) != 128))] (by kernel_rfl) rfl ?_
    refine VL_end (by kernel_rfl) ?_
    refine VQ_next ?_
    refine VC_ne (rs.getD 1 0) 128 (by kernel_rfl) (fun h4 => ?_) (fun h4 => ?_)
    ·refine VC_seq ?_
     refine VC_region ?_
     refine VL_pure 2 [2, 3] [(2, .slice none 0 0), (3, .int .i64 5)] (by kernel_rfl) rfl ?_
     refine VL_end (by kernel_rfl) ?_
     refine VQ_next ?_
     refine VC_ret ?_
     refine VQ_block_ret ?_
     refine VQ_then_ret ?_
     refine VQ_block_ret ?_
     refine VQ_then_ret ?_
     refine VQ_block_ret ?_
     refine VQ_then_ret ?_
     refine VQ_ret2 (.slice none 0 0) (.int .i64 5) (.inr rfl) rfl rfl rfl ?_
     refine UnR.no (hU.symm.trans ?_) hS
     have hvl := vals_len ol
     exact ieU_128 (by omega) (by omega) (by assumption)
    ·refine VC_skip ?_
     refine VQ_block_normal ?_
     refine VQ_next ?_
     refine VC_seq ?_
     refine VC_region ?_
     refine VL_pure 1 [0, 4, 22] [(0, .slice (some ⟨sb1, so1, none⟩) mr cr), (4, .slice Ao mo co), (22, .slice (some ⟨sb1, so1, none⟩) mr cr)] (by kernel_rfl) rfl ?_
     obtain ⟨so2, hso2⟩ : ∃ x, (if cr = 2 then so1 else so1 + 2 * 1) = x := ⟨_, rfl⟩
     refine VL_slice (d := 23) (b := sb1) (o := so1) (sz := 1) (len := mr) (cap := cr) (lo := (some 2)) (hi := (some 4)) (mx := none) (by kernel_rfl) (by kernel_rfl) (fun h => by first | exact absurd rfl h | exact (fun h => by cases h)) 2 4 cr rfl rfl rfl (by omega) (by omega) (by omega) so2 hso2 2 (by omega) (cr - 2) (by omega) ?_
     have hsl1 := Sl.cutI (H := 4) hA1 hso2 (by omega)
     have hzs1 := hS.size
     refine VL_call (d := 24) (f := 53) (args := #[.slice (some ⟨sb1, so2, none⟩) 2 (cr - 2)]) (by kernel_rfl) (by kernel_rfl) (by kernel_rfl) Try.call53 (get_any (some ⟨sb1, so2, none⟩) 2 (cr - 2) _ ((rs.drop 2).take (4 - 2)) _ (by simp only [List.length_take, List.length_drop]; omega) hsl1 (by omega)) ?_
     rintro _ w2 ⟨rfl, hc1⟩
     replace hS := Step.trans hS hc1
     replace hbase := Nat.le_trans hbase (hc1).size
     replace hA1 := hA1.no hc1
     replace hO := hO.no hc1
     replace hsl1 := hsl1.no hc1
     refine VL_keep [0, 4, 22, 23, 24] [(0, .slice (some ⟨sb1, so1, none⟩) mr cr), (4, .slice Ao mo co), (22, .slice (some ⟨sb1, so1, none⟩) mr cr), (23, .slice (some ⟨sb1, so2, none⟩) 2 (cr - 2)), (24, .int .i64 (getL ((rs.drop 2).take (4 - 2))))] (by kernel_rfl) ?_
     refine VL_eq [(0, .slice (some ⟨sb1, so1, none⟩) mr cr), (4, .slice Ao mo co), (22, .slice (some ⟨sb1, so1, none⟩) mr cr), (23, .slice (some ⟨sb1, so2, none⟩) 2 (cr - 2)), (24, .int .i64 ((numB rs : Nat) : Int))] (by rw [getL_eq ((hby.drop _).take _) (by simp only [List.length_take, List.length_drop]; omega)]; rfl) ?_
     refine VL_pure 4 [0, 4, 5] [(0, .slice (some ⟨sb1, so1, none⟩) mr cr), (4, .slice Ao mo co), (5, .int .i64 ((numB rs : Nat) : Int))] (by kernel_rfl) rfl ?_
     refine VL_end (by kernel_rfl) ?_
     refine VQ_next ?_
     refine VC_seq ?_
     refine VC_block ?_
     refine VC_seq ?_
     refine VC_region ?_
     refine VL_pure 3 [0, 4, 5, 25] [(0, .slice (some ⟨sb1, so1, none⟩) mr cr), (4, .slice Ao mo co), (5, .int .i64 ((numB rs : Nat) : Int)), (25, .bool (decide (((numB rs : Nat) : Int) > 200)))] (by kernel_rfl) rfl ?_
     refine VL_end (by kernel_rfl) ?_
     refine VQ_next ?_
     refine VC_dec (((numB rs : Nat) : Int) > 200) (by kernel_rfl) (fun h5 => ?_) (fun h5 => ?_)
     ·refine VC_seq ?_
      refine VC_region ?_
      refine VL_pure 2 [2, 3] [(2, .slice none 0 0), (3, .int .i64 6)] (by kernel_rfl) rfl ?_
      refine VL_end (by kernel_rfl) ?_
      refine VQ_next ?_
      refine VC_ret ?_
      refine VQ_block_ret ?_
      refine VQ_then_ret ?_
      refine VQ_block_ret ?_
      refine VQ_then_ret ?_
      refine VQ_block_ret ?_
      refine VQ_then_ret ?_
      refine VQ_ret2 (.slice none 0 0) (.int .i64 6) (.inr rfl) rfl rfl rfl ?_
      refine UnR.no (hU.symm.trans ?_) hS
      have hvl := vals_len ol
      first | exact ieU_16 (by omega) (by omega) | exact ieU_200 (by omega) (by omega) (by assumption) (by omega)
     ·refine VC_seq ?_
      refine VC_region ?_
      refine VL_pure 4 [0, 4, 5, 30, 32] [(0, .slice (some ⟨sb1, so1, none⟩) mr cr), (4, .slice Ao mo co), (5, .int .i64 ((numB rs : Nat) : Int)), (30, .int .i64 ((mr : Nat) : Int)), (32, .int .i64 (IntKind.wrap .i64 (4 + ((numB rs : Nat) : Int))))] (by kernel_rfl) rfl ?_
      have he1 : IntKind.wrap .i64 (4 + ((numB rs : Nat) : Int)) = ((numB rs + 4 : Nat) : Int) := (by rw [wrap_i64 _ (by omega) (by omega)]; omega)
      refine VL_eq [(0, .slice (some ⟨sb1, so1, none⟩) mr cr), (4, .slice Ao mo co), (5, .int .i64 ((numB rs : Nat) : Int)), (30, .int .i64 ((mr : Nat) : Int)), (32, .int .i64 ((numB rs + 4 : Nat) : Int))] (by rw [he1]) ?_
      refine VL_pure 6 [0, 4, 5, 28] [(0, .slice (some ⟨sb1, so1, none⟩) mr cr), (4, .slice Ao mo co), (5, .int .i64 ((numB rs : Nat) : Int)), (28, .bool (decide (((mr : Nat) : Int) < ((numB rs + 4 : Nat) : Int))))] (by kernel_rfl) rfl ?_
      refine VL_end (by kernel_rfl) ?_
      refine VQ_next ?_
      refine VC_dec (((mr : Nat) : Int) < ((numB rs + 4 : Nat) : Int)) (by kernel_rfl) (fun h6 => ?_) (fun h6 => ?_)
      ·refine VC_seq ?_
       refine VC_region ?_
       refine VL_pure 2 [2, 3] [(2, .slice none 0 0), (3, .int .i64 2)] (by kernel_rfl) rfl ?_
       refine VL_end (by kernel_rfl) ?_
       refine VQ_next ?_
       refine VC_ret ?_
       refine VQ_block_ret ?_
       refine VQ_then_ret ?_
       refine VQ_block_ret ?_
       refine VQ_then_ret ?_
       refine VQ_block_ret ?_
       refine VQ_then_ret ?_
       refine VQ_ret2 (.slice none 0 0) (.int .i64 2) (.inr rfl) rfl rfl rfl ?_
       refine UnR.no (hU.symm.trans ?_) hS
       have hvl := vals_len ol
       first | exact ieU_4 (by omega) (by omega) (by omega) | exact ieU_short (by omega) (by omega) (by assumption) (by omega) (by omega)
      ·refine VC_skip ?_
       refine VQ_block_normal ?_
       refine VQ_next ?_
       refine VC_seq ?_
       have hs1 := drew_step w2
       have hs1z : w2.heap.size = w2.drew.heap.size := rfl
       refine VC_text [[], [], [1], [1, 2], [], [], [5], [4, 5, 6], [4, 5, 6, 7], [1, 2, 3, 4, 5, 6, 7, 8], [1, 2, 3, 4, 5, 6, 7, 8, 9], [0, 1, 2, 3, 4, 5, 6, 7, 8, 9, 10], [0, 1, 2, 3, 4, 5, 6, 7, 8, 9, 10, 11]] 11 (fun x y => Step (fun k => w2.heap.size ≤ k) x y) [8, 10] [0, 1, 2, 3, 4, 5, 6, 7, 8, 9, 10] (by kernel_rfl) (by kernel_rfl) (by kernel_rfl) (by kernel_rfl) (fun x => Step.refl _ x) (fun h k => Step.trans h k) Step.weak ?_
       have hzs2 := hS.size
       generalize w2.drew = w3 at hs1 hs1z ⊢
       replace hS := Step.trans hS hs1
       replace hbase := Nat.le_trans hbase (hs1).size
       replace hA1 := hA1.no hs1
       replace hO := hO.no hs1
       replace hsl1 := hsl1.no hs1
       refine VT_pures 2 (kn' := [(1, .slice (some ⟨sb1, so1, none⟩) mr cr), (0, .slice Ao mo co)]) (by kernel_rfl) ?_
       refine VT_index (d := 36) (b := sb1) (o := so1) (len := mr) (sz := 1) (mm := 0) (by kernel_rfl) (by kernel_rfl) 0 (by rfl) (by omega) so1 (by omega) ?_
       refine VT_load (d := 37) (t := 5) (a := ⟨sb1, so1, none⟩) (v := .int .u8 (rs.getD 0 0)) (by kernel_rfl) (by kernel_rfl) ?_ ?_
       ·intro w4 hr1
        replace hS := Step.transNew hS hr1 (fun i hi hG => by (try simp only at hG); omega)
        replace hbase := Nat.le_trans hbase (hr1).size
        replace hA1 := hA1.keepB hr1 (by (try simp only); omega)
        replace hO := hO.stepN hr1 (fun k hk hk2 hG => by (try simp only at hG); omega)
        replace hsl1 := hsl1.keepB hr1 (by (try simp only); omega)
        exact (Sl.ldI hA1 (by kernel_rfl) 0 (by (try simp only [List.length_set, List.length_append, List.length_map, List.length_replicate, List.length_cons, List.length_nil, List.length_take, List.length_drop, List.length_range]) <;> omega))
       refine VT_pures 3 (kn' := [(6, .int .i64 (IntKind.wrap .i64 (4 + ((numB rs : Nat) : Int)))), (5, .int .i64 ((numB rs : Nat) : Int)), (4, .slice (some ⟨sb1, so1, none⟩) mr cr), (3, .int .u8 (rs.getD 0 0)), (2, .pointer (some ⟨sb1, so1, none⟩)), (1, .slice (some ⟨sb1, so1, none⟩) mr cr), (0, .slice Ao mo co)]) (by kernel_rfl) ?_
       obtain ⟨so3, hso3⟩ : ∃ x, (if cr = 4 then so1 else so1 + 4 * 1) = x := ⟨_, rfl⟩
       refine VT_slice (d := 41) (b := sb1) (o := so1) (sz := 1) (len := mr) (cap := cr) (lo := (some 4)) (hi := (some (IntKind.wrap .i64 (4 + ((numB rs : Nat) : Int))))) (mx := none) (by kernel_rfl) (by kernel_rfl) (fun h => by first | exact absurd rfl h | exact (fun h => by cases h)) 4 (numB rs + 4) cr rfl (show IntKind.wrap .i64 (4 + ((numB rs : Nat) : Int)) = ((numB rs + 4 : Nat) : Int) from (by rw [wrap_i64 _ (by omega) (by omega)]; omega)) rfl (by omega) (by omega) (by omega) so3 hso3 ((numB rs + 4) - 4) (by omega) (cr - 4) (by omega) ?_
       have hsl2 := Sl.cutI (H := numB rs + 4) hA1 hso3 (by omega)
       refine VT_chain (by kernel_rfl) ?_
       intro w5 hs2
       have hzhs2 := hs2.size
       replace hS := Step.trans hS hs2
       replace hbase := Nat.le_trans hbase (hs2).size
       replace hA1 := hA1.no hs2
       replace hO := hO.no hs2
       replace hsl1 := hsl1.no hs2
       replace hsl2 := hsl2.no hs2
       have hzs3 := hS.size
       refine VTc_call (d := 42) (f := 43) (by kernel_rfl) (by kernel_rfl) (by kernel_rfl) Try.call43 (clone_some sb1 so3 ((numB rs + 4) - 4) (cr - 4) _ ((rs.drop 4).take ((numB rs + 4) - 4)) _ (by simp only [List.length_take, List.length_drop]; omega) hsl2 (by omega) (by first | exact Nat.le_refl _ | omega)) ?_ ?_
       ·rintro _ w6 ⟨A1, c1, rfl, hr2, hc2⟩
        exact Step.mono hc2 (by intro i hi; first | exact hi.elim | ((try simp only at hi ⊢); omega))
       rintro _ w6 ⟨A1, c1, rfl, hr2, hc2⟩
       have hzhc2 := (hc2).size
       replace hS := Step.trans hS hc2
       replace hbase := Nat.le_trans hbase (hc2).size
       replace hA1 := hA1.no hc2
       replace hO := hO.no hc2
       replace hsl1 := hsl1.no hc2
       replace hsl2 := hsl2.no hc2
       obtain ⟨base1, hbase1E⟩ : ∃ x, x = w5.heap.size := ⟨_, rfl⟩
       rw [← hbase1E] at hr2
       have hbase1 : base1 ≤ w6.heap.size := by rw [hbase1E]; exact hc2.size
       refine VT_pures 1 (kn' := [(9, .agg #[.int .u8 (rs.getD 0 0), .slice A1 ((numB rs + 4) - 4) c1]), (8, .slice A1 ((numB rs + 4) - 4) c1), (7, .slice (some ⟨sb1, so3, none⟩) ((numB rs + 4) - 4) (cr - 4)), (6, .int .i64 (IntKind.wrap .i64 (4 + ((numB rs : Nat) : Int)))), (5, .int .i64 ((numB rs : Nat) : Int)), (4, .slice (some ⟨sb1, so1, none⟩) mr cr), (3, .int .u8 (rs.getD 0 0)), (2, .pointer (some ⟨sb1, so1, none⟩)), (1, .slice (some ⟨sb1, so1, none⟩) mr cr), (0, .slice Ao mo co)]) (by kernel_rfl) ?_
       refine VT_chain (by kernel_rfl) ?_
       intro w7 hs3
       have hzhs3 := hs3.size
       replace hS := Step.trans hS hs3
       replace hbase := Nat.le_trans hbase (hs3).size
       replace hA1 := hA1.no hs3
       replace hO := hO.no hs3
       replace hsl1 := hsl1.no hs3
       replace hsl2 := hsl2.no hs3
       replace hbase1 := Nat.le_trans hbase1 (hs3).size
       replace hr2 := hr2.no hs3
       have hzs4 := hS.size
       have hzk1 := hbase
       have hzk2 := hbase1
       have hub1 := hO.ub
       have hub2 := hr2.ub
       have hzs5 := hS.size
       have hzk3 := hbase
       have hzk4 := hbase1
       refine VTc_bs (d := 44) (e := 60) (c := #[.int .u8 (rs.getD 0 0), .slice A1 ((numB rs + 4) - 4) c1]) (len := 1) (by kernel_rfl) (by kernel_rfl) (fun b w1 hn => hn.step _) ?_
       intro b1 w8 hn1
       replace hS := Step.trans hS (hn1.step No)
       replace hbase := Nat.le_trans hbase (hn1.step No).size
       replace hA1 := hA1.no (hn1.step No)
       replace hO := hO.no (hn1.step No)
       replace hsl1 := hsl1.no (hn1.step No)
       replace hsl2 := hsl2.no (hn1.step No)
       replace hbase1 := Nat.le_trans hbase1 (hn1.step No).size
       replace hr2 := hr2.no (hn1.step No)
       have ho1 := hn1.own
       have hzhn1 := hn1.size
       have hqhn1 := hn1.eqb
       refine VT_end ?_
       intro w9 hs4
       replace hS := Step.trans hS hs4
       replace hbase := Nat.le_trans hbase (hs4).size
       replace hA1 := hA1.no hs4
       replace hO := hO.no hs4
       replace hsl1 := hsl1.no hs4
       replace hsl2 := hsl2.no hs4
       replace hbase1 := Nat.le_trans hbase1 (hs4).size
       replace hr2 := hr2.no hs4
       replace ho1 := ho1.no hs4
       refine VL_keep [0, 5, 34, 44] [(0, .slice (some ⟨sb1, so1, none⟩) mr cr), (5, .int .i64 ((numB rs : Nat) : Int)), (34, .slice Ao mo co), (44, .slice (some ⟨b1, 0, none⟩) 1 1)] (by kernel_rfl) ?_
       have hzs6 := hS.size
       have hzk5 := hbase
       have hzk6 := hbase1
       have hzl1 := ho1.lt
       refine VL_appendZ (d := 45) (e := 60) (A := Ao) (m := mo) (c := co) (A2 := some ⟨b1, 0, none⟩) (m2 := 1) (c2 := 1) (sz := 2) (bytes := 32) (by kernel_rfl) (by kernel_rfl) (by kernel_rfl) base w9.heap.size (ieL ol) [.int .u8 (rs.getD 0 0), .slice A1 ((numB rs + 4) - 4) c1] hO.row (by rfl) (Own.sl ho1 ho1.lt) (by intro u hu; simp only [List.mem_cons, List.mem_nil_iff, or_false] at hu; rcases hu with rfl | rfl <;> rfl) (mo + 1) (by omega) (by simp only [maxLen]; omega) (by omega) (by omega) ?_
       intro A2 c2 w10 hr3 hg1
       have hI1 := hO
       replace hr3 := Ier.push (x := ⟨rs.getD 0 0, A1, ((numB rs + 4) - 4), c1, (rs.drop 4).take ((numB rs + 4) - 4)⟩) hO (by decide) (Rw.low hr2 (by omega)) hg1 hr3
       have hg1b : StepT 60 base w9 w10 := hI1.row.stepT hg1
       have hzhg1 := hg1.size
       have hg1bS : Step (fun k => base ≤ k) _ _ := Step.mono hg1b (fun i hi => hi.1)
       replace hS := Step.transNew hS hg1bS (fun i hi hG => by (try simp only at hG); omega)
       replace hbase := Nat.le_trans hbase (hg1bS).size
       replace hA1 := hA1.keepB hg1bS (by (try simp only); omega)
       replace hsl1 := hsl1.keepB hg1bS (by (try simp only); omega)
       replace hsl2 := hsl2.keepB hg1bS (by (try simp only); omega)
       replace hbase1 := Nat.le_trans hbase1 (hg1bS).size
       refine VL_pure 13 [0, 5, 4] [(0, .slice (some ⟨sb1, so1, none⟩) mr cr), (5, .int .i64 ((numB rs : Nat) : Int)), (4, .slice A2 (mo + 1) c2)] (by kernel_rfl) rfl ?_
       refine VL_end (by kernel_rfl) ?_
       refine VQ_next ?_
       refine VC_region ?_
       refine VL_pure 3 [4, 46, 48] [(4, .slice A2 (mo + 1) c2), (46, .slice (some ⟨sb1, so1, none⟩) mr cr), (48, .int .i64 (IntKind.wrap .i64 (4 + ((numB rs : Nat) : Int))))] (by kernel_rfl) rfl ?_
       have he2 : IntKind.wrap .i64 (4 + ((numB rs : Nat) : Int)) = ((numB rs + 4 : Nat) : Int) := (by rw [wrap_i64 _ (by omega) (by omega)]; omega)
       refine VL_eq [(4, .slice A2 (mo + 1) c2), (46, .slice (some ⟨sb1, so1, none⟩) mr cr), (48, .int .i64 ((numB rs + 4 : Nat) : Int))] (by rw [he2]) ?_
       obtain ⟨so4, hso4⟩ : ∃ x, (if cr = (numB rs + 4) then so1 else so1 + (numB rs + 4) * 1) = x := ⟨_, rfl⟩
       refine VL_slice (d := 49) (b := sb1) (o := so1) (sz := 1) (len := mr) (cap := cr) (lo := (some ((numB rs + 4 : Nat) : Int))) (hi := none) (mx := none) (by kernel_rfl) (by kernel_rfl) (fun h => by first | exact absurd rfl h | exact (fun h => by cases h)) (numB rs + 4) mr cr rfl rfl rfl (by omega) (by omega) (by omega) so4 hso4 (mr - (numB rs + 4)) (by omega) (cr - (numB rs + 4)) (by omega) ?_
       have hsl3 := Sl.cutI (H := mr) hA1 hso4 (by omega)
       refine VL_pure 5 [4, 0] [(4, .slice A2 (mo + 1) c2), (0, .slice (some ⟨sb1, so4, none⟩) (mr - (numB rs + 4)) (cr - (numB rs + 4)))] (by kernel_rfl) rfl ?_
       refine VL_end (by kernel_rfl) ?_
       refine VQ_block_normal ?_
       refine VQ_again (⟨rs.drop (numB rs + 4), (some ⟨sb1, so4, none⟩), (mr - (numB rs + 4)), (cr - (numB rs + 4)), ol ++ [⟨rs.getD 0 0, A1, ((numB rs + 4) - 4), c1, (rs.drop 4).take ((numB rs + 4) - 4)⟩], A2, mo + 1, c2⟩) ⟨rfl, rfl, trivial⟩ ?_ ?_
       ·exact ⟨(by dsimp only; rw [List.length_drop]; omega), (by dsimp only; omega), (by dsimp only; omega), (by dsimp only; omega), (hby.drop _), (by have hq := ieU_on (out := vals ol) (bs := rs) (by rw [vals_len]; omega) (by omega) (by assumption) (by omega) (by omega); rw [← hU, hq, vals_app, Nat.add_comm 4 (numB rs)]; rfl), hS, hbase, (Sl.cast hsl3 (congrArg (iL .u8) (List.take_of_length_le (by rw [List.length_drop]; omega)))), hr3⟩
       ·(try dsimp only); omega
 ·refine VC_exit ?_
  refine VQ_then_exit ?_
  refine VQ_then_exit ?_
  refine VQ_block_hit ?_
  refine VQ_next ?_
  refine VC_seq ?_
  refine VC_region ?_
  refine VL_pure 3 [2, 3] [(2, .slice Ao mo co), (3, .int .i64 0)] (by kernel_rfl) rfl ?_
  refine VL_end (by kernel_rfl) ?_
  refine VQ_next ?_
  refine VC_ret ?_
  refine VQ_ret2 (.slice Ao mo co) (.int .i64 0) (.inr rfl) rfl rfl rfl ?_
  have hrs := List.eq_nil_of_length_eq_zero (show rs.length = 0 by omega)
  exact UnR.yes (by rw [← hU, ieU_end (by omega)]) hO (by omega) hS

theorem getD_drop {bs : List Int} (q i : Nat) : (bs.drop q).getD i 0 = bs.getD (q + i) 0 := by simp [List.getD, List.getElem?_drop]
theorem numB_at {bs : List Int} {q : Nat} (hb : Bytes bs) (h : q + 4 ≤ bs.length) : IntKind.wrap .i64 (IntKind.wrap .i64 (IntKind.wrap .i64 (bs.getD (q + 2) 0) * 256) + IntKind.wrap .i64 (bs.getD (q + 3) 0)) = ((numB (bs.drop q) : Nat) : Int) := by
  have h1 := hb.get (q + 2)
  have h2 := hb.get (q + 3)
  rw [wrap_i64 (bs.getD (q + 2) 0) (by omega) (by omega), wrap_i64 (bs.getD (q + 3) 0) (by omega) (by omega), wrap_i64 (bs.getD (q + 2) 0 * 256) (by omega) (by omega), wrap_i64 _ (by omega) (by omega)]
  unfold numB
  rw [natL_2 (by simp only [List.length_take, List.length_drop]; omega)]
  simp only [List.getD, List.getElem?_take, List.getElem?_drop]
  simp only [show (0 : Nat) < 2 by decide, show (1 : Nat) < 2 by decide, if_true]
  simp only [List.getD] at h1 h2
  rw [show q + (2 + 0) = q + 2 by omega, show q + (2 + 1) = q + 3 by omega]
  omega
end Go.Proofs.Ytejpcmjokamdcaa
end

section
/- Layer 16: known, Right, Pack; both sides. -/
set_option linter.unusedVariables false
set_option linter.unusedSimpArgs false
namespace Go.Proofs.Ytejpcmjokamdcaa
open Go.Vc Go.RowKit

set_option maxRecDepth 100000 in
set_option maxHeartbeats 4000000 in
theorem known_any (k : Int) (w : World) :
  CV Try.prog 30 #[.int .i64 k] w (fun x w1 => x = .bool (knownB k) ∧ Step No w w1) := by
 have hS : Step No w w := Step.refl _ _
 refine CV_enter Try.f30 _ 16 [(0, .int .i64 k)] Try.func30 rfl rfl (by kernel_rfl) rfl ?_
 refine VC_seq ?_
 refine VC_region ?_
 refine VL_pure 1 [0] [(0, .int .i64 k)] (by kernel_rfl) rfl ?_
 refine VL_end (by kernel_rfl) ?_
 refine VQ_next ?_
 refine VC_scope ?_
 refine VC_seq ?_
 refine VC_region ?_
 refine VL_pure 1 [0, 3] [(0, .int .i64 k), (3, .bool false)] (by kernel_rfl) rfl ?_
 refine VL_end (by kernel_rfl) ?_
 refine VQ_next ?_
 refine VC_seq ?_
 refine VC_label ?_
 refine VQ_next ?_
 refine VC_seq ?_
 refine VC_seq ?_
 refine VC_region ?_
 refine VL_pure 2 [0, 3, 6, 7] [(0, .int .i64 k), (3, .bool false), (6, .agg #[.int .i64 2, .int .i64 5, .int .i64 7, .int .i64 77, .int .i64 90]), (7, .int .i64 0)] (by kernel_rfl) rfl ?_
 refine VL_end (by kernel_rfl) ?_
 refine VQ_next ?_
 refine VC_block ?_
 refine VC_rounds ?_
 refine VCL_round ?_
 refine VC_seq ?_
 refine VC_region ?_
 refine VL_pure 1 [0, 3, 6, 7, 8] [(0, .int .i64 k), (3, .bool false), (6, .agg #[.int .i64 2, .int .i64 5, .int .i64 7, .int .i64 77, .int .i64 90]), (7, .int .i64 0), (8, .bool true)] (by kernel_rfl) rfl ?_
 refine VL_end (by kernel_rfl) ?_
 refine VQ_next ?_
 refine VC_seq ?_
 refine VC_true (by kernel_rfl) ?_
 refine VC_skip ?_
 refine VQ_next ?_
 refine VC_seq ?_
 refine VC_block ?_
 refine VC_seq ?_
 refine VC_region ?_
 refine VL_pure 2 [0, 6, 7, 5] [(0, .int .i64 k), (6, .agg #[.int .i64 2, .int .i64 5, .int .i64 7, .int .i64 77, .int .i64 90]), (7, .int .i64 0), (5, .int .i64 2)] (by kernel_rfl) rfl ?_
 refine VL_end (by kernel_rfl) ?_
 refine VQ_next ?_
 refine VC_seq ?_
 refine VC_region ?_
 refine VL_pure 4 [0, 6, 7, 3] [(0, .int .i64 k), (6, .agg #[.int .i64 2, .int .i64 5, .int .i64 7, .int .i64 77, .int .i64 90]), (7, .int .i64 0), (3, .bool (2 == k))] (by kernel_rfl) rfl ?_
 refine VL_end (by kernel_rfl) ?_
 refine VQ_next ?_
 refine VC_seq ?_
 refine VC_region ?_
 refine VL_pure 1 [0, 6, 7, 3, 13] [(0, .int .i64 k), (6, .agg #[.int .i64 2, .int .i64 5, .int .i64 7, .int .i64 77, .int .i64 90]), (7, .int .i64 0), (3, .bool (2 == k)), (13, .bool (2 == k))] (by kernel_rfl) rfl ?_
 refine VL_end (by kernel_rfl) ?_
 refine VQ_next ?_
 refine VC_eq 2 k (by kernel_rfl) (fun h1 => ?_) (fun h1 => ?_)
 ·refine VC_exit ?_
  refine VQ_block_miss (by kernel_rfl) ?_
  refine VQ_then_exit ?_
  refine VQ_then_exit ?_
  refine VQ_block_hit ?_
  refine VQ_next ?_
  refine VC_seq ?_
  refine VC_region ?_
  refine VL_pure 2 [2] [(2, .bool (2 == k))] (by kernel_rfl) rfl ?_
  refine VL_end (by kernel_rfl) ?_
  refine VQ_next ?_
  refine VC_ret ?_
  refine VQ_scope_ret ?_
  refine VQ_ret1 (.bool (2 == k)) (.inr rfl) rfl rfl ?_
  exact ⟨congrArg Value.bool (by rw [knownB, Bool.eq_iff_iff]; simp only [Bool.or_eq_true, beq_iff_eq, decide_eq_true_eq]; omega), hS⟩
 ·refine VC_skip ?_
  refine VQ_block_normal ?_
  refine VQ_next ?_
  refine VC_region ?_
  refine VL_pure 2 [0, 6, 7, 3] [(0, .int .i64 k), (6, .agg #[.int .i64 2, .int .i64 5, .int .i64 7, .int .i64 77, .int .i64 90]), (7, .int .i64 1), (3, .bool (2 == k))] (by kernel_rfl) rfl ?_
  refine VL_end (by kernel_rfl) ?_
  refine VQ_round ?_
  refine VCL_round ?_
  refine VC_seq ?_
  refine VC_region ?_
  refine VL_pure 1 [0, 6, 7, 3, 8] [(0, .int .i64 k), (6, .agg #[.int .i64 2, .int .i64 5, .int .i64 7, .int .i64 77, .int .i64 90]), (7, .int .i64 1), (3, .bool (2 == k)), (8, .bool true)] (by kernel_rfl) rfl ?_
  refine VL_end (by kernel_rfl) ?_
  refine VQ_next ?_
  refine VC_seq ?_
  refine VC_true (by kernel_rfl) ?_
  refine VC_skip ?_
  refine VQ_next ?_
  refine VC_seq ?_
  refine VC_block ?_
  refine VC_seq ?_
  refine VC_region ?_
  refine VL_pure 2 [0, 6, 7, 5] [(0, .int .i64 k), (6, .agg #[.int .i64 2, .int .i64 5, .int .i64 7, .int .i64 77, .int .i64 90]), (7, .int .i64 1), (5, .int .i64 5)] (by kernel_rfl) rfl ?_
  refine VL_end (by kernel_rfl) ?_
  refine VQ_next ?_
  refine VC_seq ?_
  refine VC_region ?_
  refine VL_pure 4 [0, 6, 7, 3] [(0, .int .i64 k), (6, .agg #[.int .i64 2, .int .i64 5, .int .i64 7, .int .i64 77, .int .i64 90]), (7, .int .i64 1), (3, .bool (5 == k))] (by kernel_rfl) rfl ?_
  refine VL_end (by kernel_rfl) ?_
  refine VQ_next ?_
  refine VC_seq ?_
  refine VC_region ?_
  refine VL_pure 1 [0, 6, 7, 3, 13] [(0, .int .i64 k), (6, .agg #[.int .i64 2, .int .i64 5, .int .i64 7, .int .i64 77, .int .i64 90]), (7, .int .i64 1), (3, .bool (5 == k)), (13, .bool (5 == k))] (by kernel_rfl) rfl ?_
  refine VL_end (by kernel_rfl) ?_
  refine VQ_next ?_
  refine VC_eq 5 k (by kernel_rfl) (fun h2 => ?_) (fun h2 => ?_)
  ·refine VC_exit ?_
   refine VQ_block_miss (by kernel_rfl) ?_
   refine VQ_then_exit ?_
   refine VQ_then_exit ?_
   refine VQ_block_hit ?_
   refine VQ_next ?_
   refine VC_seq ?_
   refine VC_region ?_
   refine VL_pure 2 [2] [(2, .bool (5 == k))] (by kernel_rfl) rfl ?_
   refine VL_end (by kernel_rfl) ?_
   refine VQ_next ?_
   refine VC_ret ?_
   refine VQ_scope_ret ?_
   refine VQ_ret1 (.bool (5 == k)) (.inr rfl) rfl rfl ?_
   exact ⟨congrArg Value.bool (by rw [knownB, Bool.eq_iff_iff]; simp only [Bool.or_eq_true, beq_iff_eq, decide_eq_true_eq]; omega), hS⟩
  ·refine VC_skip ?_
   refine VQ_block_normal ?_
   refine VQ_next ?_
   refine VC_region ?_
   refine VL_pure 2 [0, 6, 7, 3] [(0, .int .i64 k), (6, .agg #[.int .i64 2, .int .i64 5, .int .i64 7, .int .i64 77, .int .i64 90]), (7, .int .i64 2), (3, .bool (5 == k))] (by kernel_rfl) rfl ?_
   refine VL_end (by kernel_rfl) ?_
   refine VQ_round ?_
   refine VCL_round ?_
   refine VC_seq ?_
   refine VC_region ?_
   refine VL_pure 1 [0, 6, 7, 3, 8] [(0, .int .i64 k), (6, .agg #[.int .i64 2, .int .i64 5, .int .i64 7, .int .i64 77, .int .i64 90]), (7, .int .i64 2), (3, .bool (5 == k)), (8, .bool true)] (by kernel_rfl) rfl ?_
   refine VL_end (by kernel_rfl) ?_
   refine VQ_next ?_
   refine VC_seq ?_
   refine VC_true (by kernel_rfl) ?_
   refine VC_skip ?_
   refine VQ_next ?_
   refine VC_seq ?_
   refine VC_block ?_
   refine VC_seq ?_
   refine VC_region ?_
   refine VL_pure 2 [0, 6, 7, 5] [(0, .int .i64 k), (6, .agg #[.int .i64 2, .int .i64 5, .int .i64 7, .int .i64 77, .int .i64 90]), (7, .int .i64 2), (5, .int .i64 7)] (by kernel_rfl) rfl ?_
   refine VL_end (by kernel_rfl) ?_
   refine VQ_next ?_
   refine VC_seq ?_
   refine VC_region ?_
   refine VL_pure 4 [0, 6, 7, 3] [(0, .int .i64 k), (6, .agg #[.int .i64 2, .int .i64 5, .int .i64 7, .int .i64 77, .int .i64 90]), (7, .int .i64 2), (3, .bool (7 == k))] (by kernel_rfl) rfl ?_
   refine VL_end (by kernel_rfl) ?_
   refine VQ_next ?_
   refine VC_seq ?_
   refine VC_region ?_
   refine VL_pure 1 [0, 6, 7, 3, 13] [(0, .int .i64 k), (6, .agg #[.int .i64 2, .int .i64 5, .int .i64 7, .int .i64 77, .int .i64 90]), (7, .int .i64 2), (3, .bool (7 == k)), (13, .bool (7 == k))] (by kernel_rfl) rfl ?_
   refine VL_end (by kernel_rfl) ?_
   refine VQ_next ?_
   refine VC_eq 7 k (by kernel_rfl) (fun h3 => ?_) (fun h3 => ?_)
   ·refine VC_exit ?_
    refine VQ_block_miss (by kernel_rfl) ?_
    refine VQ_then_exit ?_
    refine VQ_then_exit ?_
    refine VQ_block_hit ?_
    refine VQ_next ?_
    refine VC_seq ?_
    refine VC_region ?_
    refine VL_pure 2 [2] [(2, .bool (7 == k))] (by kernel_rfl) rfl ?_
    refine VL_end (by kernel_rfl) ?_
    refine VQ_next ?_
    refine VC_ret ?_
    refine VQ_scope_ret ?_
    refine VQ_ret1 (.bool (7 == k)) (.inr rfl) rfl rfl ?_
    exact ⟨congrArg Value.bool (by rw [knownB, Bool.eq_iff_iff]; simp only [Bool.or_eq_true, beq_iff_eq, decide_eq_true_eq]; omega), hS⟩
   ·refine VC_skip ?_
    refine VQ_block_normal ?_
    refine VQ_next ?_
    refine VC_region ?_
    refine VL_pure 2 [0, 6, 7, 3] [(0, .int .i64 k), (6, .agg #[.int .i64 2, .int .i64 5, .int .i64 7, .int .i64 77, .int .i64 90]), (7, .int .i64 3), (3, .bool (7 == k))] (by kernel_rfl) rfl ?_
    refine VL_end (by kernel_rfl) ?_
    refine VQ_round ?_
    refine VCL_round ?_
    refine VC_seq ?_
    refine VC_region ?_
    refine VL_pure 1 [0, 6, 7, 3, 8] [(0, .int .i64 k), (6, .agg #[.int .i64 2, .int .i64 5, .int .i64 7, .int .i64 77, .int .i64 90]), (7, .int .i64 3), (3, .bool (7 == k)), (8, .bool true)] (by kernel_rfl) rfl ?_
    refine VL_end (by kernel_rfl) ?_
    refine VQ_next ?_
    refine VC_seq ?_
    refine VC_true (by kernel_rfl) ?_
    refine VC_skip ?_
    refine VQ_next ?_
    refine VC_seq ?_
    refine VC_block ?_
    refine VC_seq ?_
    refine VC_region ?_
    refine VL_pure 2 [0, 6, 7, 5] [(0, .int .i64 k), (6, .agg #[.int .i64 2, .int .i64 5, .int .i64 7, .int .i64 77, .int .i64 90]), (7, .int .i64 3), (5, .int .i64 77)] (by kernel_rfl) rfl ?_
    refine VL_end (by kernel_rfl) ?_
    refine VQ_next ?_
    refine VC_seq ?_
    refine VC_region ?_
    refine VL_pure 4 [0, 6, 7, 3] [(0, .int .i64 k), (6, .agg #[.int .i64 2, .int .i64 5, .int .i64 7, .int .i64 77, .int .i64 90]), (7, .int .i64 3), (3, .bool (77 == k))] (by kernel_rfl) rfl ?_
    refine VL_end (by kernel_rfl) ?_
    refine VQ_next ?_
    refine VC_seq ?_
    refine VC_region ?_
    refine VL_pure 1 [0, 6, 7, 3, 13] [(0, .int .i64 k), (6, .agg #[.int .i64 2, .int .i64 5, .int .i64 7, .int .i64 77, .int .i64 90]), (7, .int .i64 3), (3, .bool (77 == k)), (13, .bool (77 == k))] (by kernel_rfl) rfl ?_
    refine VL_end (by kernel_rfl) ?_
    refine VQ_next ?_
    refine VC_eq 77 k (by kernel_rfl) (fun h4 => ?_) (fun h4 => ?_)
    ·refine VC_exit ?_
     refine VQ_block_miss (by kernel_rfl) ?_
     refine VQ_then_exit ?_
     refine VQ_then_exit ?_
     refine VQ_block_hit ?_
     refine VQ_next ?_
     refine VC_seq ?_
     refine VC_region ?_
     refine VL_pure 2 [2] [(2, .bool (77 == k))] (by kernel_rfl) rfl ?_
     refine VL_end (by kernel_rfl) ?_
     refine VQ_next ?_
     refine VC_ret ?_
     refine VQ_scope_ret ?_
     refine VQ_ret1 (.bool (77 == k)) (.inr rfl) rfl rfl ?_
     exact ⟨congrArg Value.bool (by rw [knownB, Bool.eq_iff_iff]; simp only [Bool.or_eq_true, beq_iff_eq, decide_eq_true_eq]; omega), hS⟩
    ·refine VC_skip ?_
     refine VQ_block_normal ?_
     refine VQ_next ?_
     refine VC_region ?_
     refine VL_pure 2 [0, 6, 7, 3] [(0, .int .i64 k), (6, .agg #[.int .i64 2, .int .i64 5, .int .i64 7, .int .i64 77, .int .i64 90]), (7, .int .i64 4), (3, .bool (77 == k))] (by kernel_rfl) rfl ?_
     refine VL_end (by kernel_rfl) ?_
     refine VQ_round ?_
     refine VCL_round ?_
     refine VC_seq ?_
     refine VC_region ?_
     refine VL_pure 1 [0, 6, 7, 3, 8] [(0, .int .i64 k), (6, .agg #[.int .i64 2, .int .i64 5, .int .i64 7, .int .i64 77, .int .i64 90]), (7, .int .i64 4), (3, .bool (77 == k)), (8, .bool true)] (by kernel_rfl) rfl ?_
     refine VL_end (by kernel_rfl) ?_
     refine VQ_next ?_
     refine VC_seq ?_
     refine VC_true (by kernel_rfl) ?_
     refine VC_skip ?_
     refine VQ_next ?_
     refine VC_seq ?_
     refine VC_block ?_
     refine VC_seq ?_
     refine VC_region ?_
     refine VL_pure 2 [0, 6, 7, 5] [(0, .int .i64 k), (6, .agg #[.int .i64 2, .int .i64 5, .int .i64 7, .int .i64 77, .int .i64 90]), (7, .int .i64 4), (5, .int .i64 90)] (by kernel_rfl) rfl ?_
     refine VL_end (by kernel_rfl) ?_
     refine VQ_next ?_
     refine VC_seq ?_
     refine VC_region ?_
     refine VL_pure 4 [0, 6, 7, 3] [(0, .int .i64 k), (6, .agg #[.int .i64 2, .int .i64 5, .int .i64 7, .int .i64 77, .int .i64 90]), (7, .int .i64 4), (3, .bool (90 == k))] (by kernel_rfl) rfl ?_
     refine VL_end (by kernel_rfl) ?_
     refine VQ_next ?_
     refine VC_seq ?_
     refine VC_region ?_
     refine VL_pure 1 [0, 6, 7, 3, 13] [(0, .int .i64 k), (6, .agg #[.int .i64 2, .int .i64 5, .int .i64 7, .int .i64 77, .int .i64 90]), (7, .int .i64 4), (3, .bool (90 == k)), (13, .bool (90 == k))] (by kernel_rfl) rfl ?_
     refine VL_end (by kernel_rfl) ?_
     refine VQ_next ?_
     refine VC_eq 90 k (by kernel_rfl) (fun h5 => ?_) (fun h5 => ?_)
     ·refine VC_exit ?_
      refine VQ_block_miss (by kernel_rfl) ?_
      refine VQ_then_exit ?_
      refine VQ_then_exit ?_
      refine VQ_block_hit ?_
      refine VQ_next ?_
      refine VC_seq ?_
      refine VC_region ?_
      refine VL_pure 2 [2] [(2, .bool (90 == k))] (by kernel_rfl) rfl ?_
      refine VL_end (by kernel_rfl) ?_
      refine VQ_next ?_
      refine VC_ret ?_
      refine VQ_scope_ret ?_
      refine VQ_ret1 (.bool (90 == k)) (.inr rfl) rfl rfl ?_
      exact ⟨congrArg Value.bool (by rw [knownB, Bool.eq_iff_iff]; simp only [Bool.or_eq_true, beq_iff_eq, decide_eq_true_eq]; omega), hS⟩
     ·refine VC_skip ?_
      refine VQ_block_normal ?_
      refine VQ_next ?_
      refine VC_region ?_
      refine VL_pure 2 [0, 6, 7, 3] [(0, .int .i64 k), (6, .agg #[.int .i64 2, .int .i64 5, .int .i64 7, .int .i64 77, .int .i64 90]), (7, .int .i64 5), (3, .bool (90 == k))] (by kernel_rfl) rfl ?_
      refine VL_end (by kernel_rfl) ?_
      refine VQ_round ?_
      refine VCL_round ?_
      refine VC_seq ?_
      refine VC_region ?_
      refine VL_pure 1 [0, 6, 7, 3, 8] [(0, .int .i64 k), (6, .agg #[.int .i64 2, .int .i64 5, .int .i64 7, .int .i64 77, .int .i64 90]), (7, .int .i64 5), (3, .bool (90 == k)), (8, .bool false)] (by kernel_rfl) rfl ?_
      refine VL_end (by kernel_rfl) ?_
      refine VQ_next ?_
      refine VC_seq ?_
      refine VC_false (by kernel_rfl) ?_
      refine VC_exit ?_
      refine VQ_then_exit ?_
      refine VQ_then_exit ?_
      refine VQ_block_hit ?_
      refine VQ_next ?_
      refine VC_seq ?_
      refine VC_region ?_
      refine VL_pure 2 [2] [(2, .bool (90 == k))] (by kernel_rfl) rfl ?_
      refine VL_end (by kernel_rfl) ?_
      refine VQ_next ?_
      refine VC_ret ?_
      refine VQ_scope_ret ?_
      refine VQ_ret1 (.bool (90 == k)) (.inr rfl) rfl rfl ?_
      exact ⟨congrArg Value.bool (by rw [knownB, Bool.eq_iff_iff]; simp only [Bool.or_eq_true, beq_iff_eq, decide_eq_true_eq]; omega), hS⟩

set_option maxRecDepth 100000 in
set_option maxHeartbeats 4000000 in
theorem right16_any (r : Int) (bk : Bool) (k : Int) (A : Option Addr) (n c lo hi : Nat) (l : List IeV) (w : World) (hn : l.length = n) (hA : Ies w lo hi A l) (hlen : n ≤ 1000000) (hhi : hi ≤ w.heap.size) :
  CV Try.prog 17 #[.agg #[.int .i64 r, .bool bk, .int .i64 k, .slice A n c]] w (fun x w1 => x = .bool (rightM r k (vals l)) ∧ Step No w w1) := by
 have hS : Step No w w := Step.refl _ _
 refine CV_enter Try.f17 _ 28 [(0, .agg #[.int .i64 r, .bool bk, .int .i64 k, .slice A n c])] Try.func17 rfl rfl (by kernel_rfl) rfl ?_
 refine VC_seq ?_
 refine VC_region ?_
 have hzs1 := hS.size
 refine VL_box (d := 1) (t := 24) (c := #[.int .i64 r, .bool bk, .int .i64 k, .slice A n c]) (by kernel_rfl) (by kernel_rfl) ?_
 intro b1 w1 hn1
 replace hS := Step.trans hS (hn1.step No)
 replace hA := hA.no (hn1.step No)
 have ho1 := hn1.own
 have hzhn1 := hn1.size
 have hqhn1 := hn1.eqb
 refine VL_pure 2 [1] [(1, .pointer (some ⟨b1, 0, none⟩))] (by kernel_rfl) rfl ?_
 refine VL_end (by kernel_rfl) ?_
 refine VQ_next ?_
 refine VC_seq ?_
 refine VC_region ?_
 refine VL_pure 1 [1, 6] [(1, .pointer (some ⟨b1, 0, none⟩)), (6, .pointer (some ⟨b1, 3, none⟩))] (by kernel_rfl) rfl ?_
 refine VL_load (d := 7) (t := 22) (a := ⟨b1, 3, none⟩) (v := .slice A n c) (by kernel_rfl) (by kernel_rfl) (Loads.own1 ho1 (by kernel_rfl) (by rfl)) ?_
 have hzs2 := hS.size
 have hzl1 := ho1.lt
 refine VL_call (d := 8) (f := 28) (by kernel_rfl) (by kernel_rfl) (by kernel_rfl) Try.call28 (pack_any A n c lo hi l _ hn hA (by omega) (by first | exact Nat.le_refl _ | omega)) ?_
 rintro _ w2 ⟨A1, c1, rfl, hr1, hc1⟩
 replace hS := Step.trans hS hc1
 replace hA := hA.no hc1
 replace ho1 := ho1.no hc1
 obtain ⟨base1, hbase1E⟩ : ∃ x, x = w1.heap.size := ⟨_, rfl⟩
 rw [← hbase1E] at hr1
 have hbase1 : base1 ≤ w2.heap.size := by rw [hbase1E]; exact hc1.size
 have hplq1 := packT_le (vals l)
 refine VL_pure 8 [1, 4] [(1, .pointer (some ⟨b1, 0, none⟩)), (4, .int .i64 (packE (vals l)))] (by kernel_rfl) rfl ?_
 refine VL_end (by kernel_rfl) ?_
 refine VQ_next ?_
 refine VC_seq ?_
 refine VC_region ?_
 refine VL_pure 1 [1, 4, 11] [(1, .pointer (some ⟨b1, 0, none⟩)), (4, .int .i64 (packE (vals l))), (11, .pointer (some ⟨b1, 0, none⟩))] (by kernel_rfl) rfl ?_
 refine VL_load (d := 12) (t := 3) (a := ⟨b1, 0, none⟩) (v := .int .i64 r) (by kernel_rfl) (by kernel_rfl) (Loads.own1 ho1 (by kernel_rfl) (by rfl)) ?_
 refine VL_pure 4 [1, 4, 14] [(1, .pointer (some ⟨b1, 0, none⟩)), (4, .int .i64 (packE (vals l))), (14, .bool (decide (r ≥ 1)))] (by kernel_rfl) rfl ?_
 refine VL_dec (r ≥ 1) (fun bV => [(1, .pointer (some ⟨b1, 0, none⟩)), (4, .int .i64 (packE (vals l))), (14, .bool bV)]) rfl (fun hg1 => ?_) (fun hg1 => ?_)
 ·refine VL_pure 5 [1, 4, 14, 15] [(1, .pointer (some ⟨b1, 0, none⟩)), (4, .int .i64 (packE (vals l))), (14, .bool true), (15, .pointer (some ⟨b1, 0, none⟩))] (by kernel_rfl) rfl ?_
  refine VL_load (d := 16) (t := 3) (a := ⟨b1, 0, none⟩) (v := .int .i64 r) (by kernel_rfl) (by kernel_rfl) (Loads.own1 ho1 (by kernel_rfl) (by rfl)) ?_
  refine VL_pure 9 [1, 4, 19] [(1, .pointer (some ⟨b1, 0, none⟩)), (4, .int .i64 (packE (vals l))), (19, .bool (decide (r ≤ 8388607)))] (by kernel_rfl) rfl ?_
  refine VL_dec (r ≤ 8388607) (fun bV => [(1, .pointer (some ⟨b1, 0, none⟩)), (4, .int .i64 (packE (vals l))), (19, .bool bV)]) rfl (fun hg2 => ?_) (fun hg2 => ?_)
  ·refine VL_pure 10 [4, 19, 20] [(4, .int .i64 (packE (vals l))), (19, .bool true), (20, .pointer (some ⟨b1, 2, none⟩))] (by kernel_rfl) rfl ?_
   refine VL_load (d := 21) (t := 3) (a := ⟨b1, 2, none⟩) (v := .int .i64 k) (by kernel_rfl) (by kernel_rfl) (Loads.own1 ho1 (by kernel_rfl) (by rfl)) ?_
   have hzs3 := hS.size
   have hzl2 := ho1.lt
   refine VL_call (d := 22) (f := 30) (args := #[.int .i64 k]) (by kernel_rfl) (by kernel_rfl) (by kernel_rfl) Try.call30 (known_any k _) ?_
   rintro _ w3 ⟨rfl, hc2⟩
   replace hS := Step.trans hS hc2
   replace hA := hA.no hc2
   replace ho1 := ho1.no hc2
   replace hbase1 := Nat.le_trans hbase1 (hc2).size
   replace hr1 := hr1.no hc2
   refine VL_pure 14 [4, 24] [(4, .int .i64 (packE (vals l))), (24, .bool (knownB k))] (by kernel_rfl) rfl ?_
   refine VL_bool (knownB k) (fun bV => [(4, .int .i64 (packE (vals l))), (24, .bool bV)]) rfl (fun hg3 => ?_) (fun hg3 => ?_)
   ·refine VL_pure 18 [2] [(2, .bool ((packE (vals l)) == 0))] (by kernel_rfl) rfl ?_
    refine VL_end (by kernel_rfl) ?_
    refine VQ_next ?_
    refine VC_ret ?_
    refine VQ_ret1 (.bool ((packE (vals l)) == 0)) (.inr rfl) rfl rfl ?_
    exact ⟨congrArg Value.bool (by first | exact (rightM_F1 (by omega)).symm | exact (rightM_F2 (by assumption)).symm | exact rightM_E (by omega) (by assumption)), hS⟩
   ·refine VL_pure 18 [2] [(2, .bool false)] (by kernel_rfl) rfl ?_
    refine VL_end (by kernel_rfl) ?_
    refine VQ_next ?_
    refine VC_ret ?_
    refine VQ_ret1 (.bool false) (.inr rfl) rfl rfl ?_
    exact ⟨congrArg Value.bool (by first | exact (rightM_F1 (by omega)).symm | exact (rightM_F2 (by assumption)).symm | exact rightM_E (by omega) (by assumption)), hS⟩
  ·refine VL_pure 18 [2] [(2, .bool false)] (by kernel_rfl) rfl ?_
   refine VL_end (by kernel_rfl) ?_
   refine VQ_next ?_
   refine VC_ret ?_
   refine VQ_ret1 (.bool false) (.inr rfl) rfl rfl ?_
   exact ⟨congrArg Value.bool (by first | exact (rightM_F1 (by omega)).symm | exact (rightM_F2 (by assumption)).symm | exact rightM_E (by omega) (by assumption)), hS⟩
 ·refine VL_pure 18 [2] [(2, .bool false)] (by kernel_rfl) rfl ?_
  refine VL_end (by kernel_rfl) ?_
  refine VQ_next ?_
  refine VC_ret ?_
  refine VQ_ret1 (.bool false) (.inr rfl) rfl rfl ?_
  exact ⟨congrArg Value.bool (by first | exact (rightM_F1 (by omega)).symm | exact (rightM_F2 (by assumption)).symm | exact rightM_E (by omega) (by assumption)), hS⟩

set_option maxRecDepth 100000 in
set_option maxHeartbeats 4000000 in
theorem msgpack_no (r : Int) (bk : Bool) (k : Int) (A : Option Addr) (n c lo hi : Nat) (l : List IeV) (w : World) (hn : l.length = n) (hA : Ies w lo hi A l) (hlen : n ≤ 1000000) (hhi : hi ≤ w.heap.size) (hr : rightM r k (vals l) = false) :
  CV Try.prog 11 #[.agg #[.int .i64 r, .bool bk, .int .i64 k, .slice A n c]] w (fun x w1 => PackR w w1 5 x (msgT r bk k (vals l)) (msgE r bk k (vals l))) := by
 have hS : Step No w w := Step.refl _ _
 refine CV_enter Try.f11 _ 48 [(0, .agg #[.int .i64 r, .bool bk, .int .i64 k, .slice A n c])] Try.func11 rfl rfl (by kernel_rfl) rfl ?_
 refine VC_seq ?_
 refine VC_region ?_
 have hzs1 := hS.size
 refine VL_box (d := 1) (t := 24) (c := #[.int .i64 r, .bool bk, .int .i64 k, .slice A n c]) (by kernel_rfl) (by kernel_rfl) ?_
 intro b1 w1 hn1
 replace hS := Step.trans hS (hn1.step No)
 replace hA := hA.no (hn1.step No)
 have ho1 := hn1.own
 have hzhn1 := hn1.size
 have hqhn1 := hn1.eqb
 refine VL_pure 3 [1] [(1, .pointer (some ⟨b1, 0, none⟩))] (by kernel_rfl) rfl ?_
 refine VL_end (by kernel_rfl) ?_
 refine VQ_next ?_
 refine VC_seq ?_
 refine VC_seq ?_
 refine VC_region ?_
 refine VL_load (d := 8) (t := 24) (a := ⟨b1, 0, none⟩) (v := .agg #[.int .i64 r, .bool bk, .int .i64 k, .slice A n c]) (by kernel_rfl) (by kernel_rfl) (Loads.ownL ho1 (n := 4) (by kernel_rfl) (by kernel_rfl) (by kernel_rfl)) ?_
 have hzs2 := hS.size
 have hzl1 := ho1.lt
 refine VL_call (d := 9) (f := 17) (by kernel_rfl) (by kernel_rfl) (by kernel_rfl) Try.call17 (right16_any r bk k A n c lo hi l _ hn hA (by omega) (by first | exact Nat.le_refl _ | omega)) ?_
 rintro _ w2 ⟨rfl, hc1⟩
 replace hS := Step.trans hS hc1
 replace hA := hA.no hc1
 replace ho1 := ho1.no hc1
 refine VL_pure 3 [1, 10] [(1, .pointer (some ⟨b1, 0, none⟩)), (10, .bool (!(rightM r k (vals l))))] (by kernel_rfl) rfl ?_
 refine VL_end (by kernel_rfl) ?_
 refine VQ_next ?_
 refine VC_is (b := !(rightM r k (vals l))) true (by kernel_rfl) (by rw [hr]; rfl) ?_
 refine VC_ite_true ?_
 refine VC_seq ?_
 refine VC_region ?_
 refine VL_pure 2 [2, 3] [(2, .slice none 0 0), (3, .int .i64 1)] (by kernel_rfl) rfl ?_
 refine VL_end (by kernel_rfl) ?_
 refine VQ_next ?_
 refine VC_ret ?_
 refine VQ_then_ret ?_
 refine VQ_ret2 (.slice none 0 0) (.int .i64 1) (.inr rfl) rfl rfl rfl ?_
 exact MsgR.no (msg_no hr) hS

set_option maxRecDepth 100000 in
set_option maxHeartbeats 4000000 in
theorem msgpack_yes (r : Nat) (bk : Bool) (k : Int) (A : Option Addr) (n c lo hi : Nat) (l : List IeV) (w : World) (hn : l.length = n) (hA : Ies w lo hi A l) (hlen : n ≤ 1000000) (hhi : hi ≤ w.heap.size) (hr : rightM ((r : Nat) : Int) k (vals l) = true) :
  CV Try.prog 11 #[.agg #[.int .i64 ((r : Nat) : Int), .bool bk, .int .i64 k, .slice A n c]] w (fun x w1 => PackR w w1 5 x (msgT ((r : Nat) : Int) bk k (vals l)) (msgE ((r : Nat) : Int) bk k (vals l))) := by
 have hS : Step No w w := Step.refl _ _
 have hrt := (rightM_T hr).1
 refine CV_enter Try.f11 _ 48 [(0, .agg #[.int .i64 ((r : Nat) : Int), .bool bk, .int .i64 k, .slice A n c])] Try.func11 rfl rfl (by kernel_rfl) rfl ?_
 refine VC_seq ?_
 refine VC_region ?_
 have hzs1 := hS.size
 refine VL_box (d := 1) (t := 24) (c := #[.int .i64 ((r : Nat) : Int), .bool bk, .int .i64 k, .slice A n c]) (by kernel_rfl) (by kernel_rfl) ?_
 intro b1 w1 hn1
 replace hS := Step.trans hS (hn1.step No)
 replace hA := hA.no (hn1.step No)
 have ho1 := hn1.own
 have hzhn1 := hn1.size
 have hqhn1 := hn1.eqb
 refine VL_pure 3 [1] [(1, .pointer (some ⟨b1, 0, none⟩))] (by kernel_rfl) rfl ?_
 refine VL_end (by kernel_rfl) ?_
 refine VQ_next ?_
 refine VC_seq ?_
 refine VC_seq ?_
 refine VC_region ?_
 refine VL_load (d := 8) (t := 24) (a := ⟨b1, 0, none⟩) (v := .agg #[.int .i64 ((r : Nat) : Int), .bool bk, .int .i64 k, .slice A n c]) (by kernel_rfl) (by kernel_rfl) (Loads.ownL ho1 (n := 4) (by kernel_rfl) (by kernel_rfl) (by kernel_rfl)) ?_
 have hzs2 := hS.size
 have hzl1 := ho1.lt
 refine VL_call (d := 9) (f := 17) (by kernel_rfl) (by kernel_rfl) (by kernel_rfl) Try.call17 (right16_any ((r : Nat) : Int) bk k A n c lo hi l _ hn hA (by omega) (by first | exact Nat.le_refl _ | omega)) ?_
 rintro _ w2 ⟨rfl, hc1⟩
 replace hS := Step.trans hS hc1
 replace hA := hA.no hc1
 replace ho1 := ho1.no hc1
 refine VL_pure 3 [1, 10] [(1, .pointer (some ⟨b1, 0, none⟩)), (10, .bool (!(rightM ((r : Nat) : Int) k (vals l))))] (by kernel_rfl) rfl ?_
 refine VL_end (by kernel_rfl) ?_
 refine VQ_next ?_
 refine VC_is (b := !(rightM ((r : Nat) : Int) k (vals l))) false (by kernel_rfl) (by rw [hr]; rfl) ?_
 refine VC_ite_false ?_
 refine VC_skip ?_
 refine VQ_next ?_
 refine VC_seq ?_
 refine VC_region ?_
 refine VL_pure 1 [1, 12] [(1, .pointer (some ⟨b1, 0, none⟩)), (12, .pointer (some ⟨b1, 3, none⟩))] (by kernel_rfl) rfl ?_
 refine VL_load (d := 13) (t := 22) (a := ⟨b1, 3, none⟩) (v := .slice A n c) (by kernel_rfl) (by kernel_rfl) (Loads.own1 ho1 (by kernel_rfl) (by rfl)) ?_
 have hzs3 := hS.size
 have hzl2 := ho1.lt
 refine VL_call (d := 14) (f := 28) (by kernel_rfl) (by kernel_rfl) (by kernel_rfl) Try.call28 (pack_any A n c lo hi l _ hn hA (by omega) (by first | exact Nat.le_refl _ | omega)) ?_
 rintro _ w3 ⟨A1, c1, rfl, hr1, hc2⟩
 replace hS := Step.trans hS hc2
 replace hA := hA.no hc2
 replace ho1 := ho1.no hc2
 obtain ⟨base1, hbase1E⟩ : ∃ x, x = w2.heap.size := ⟨_, rfl⟩
 rw [← hbase1E] at hr1
 have hbase1 : base1 ≤ w3.heap.size := by rw [hbase1E]; exact hc2.size
 have hplq1 := packT_le (vals l)
 refine VL_pure 8 [1, 4] [(1, .pointer (some ⟨b1, 0, none⟩)), (4, .slice A1 ((packT (vals l)).length) c1)] (by kernel_rfl) rfl ?_
 refine VL_end (by kernel_rfl) ?_
 refine VQ_next ?_
 refine VC_seq ?_
 refine VC_region ?_
 refine VL_pure 1 [1, 4, 17] [(1, .pointer (some ⟨b1, 0, none⟩)), (4, .slice A1 ((packT (vals l)).length) c1), (17, .pointer (some ⟨b1, 0, none⟩))] (by kernel_rfl) rfl ?_
 refine VL_load (d := 18) (t := 3) (a := ⟨b1, 0, none⟩) (v := .int .i64 ((r : Nat) : Int)) (by kernel_rfl) (by kernel_rfl) (Loads.own1 ho1 (by kernel_rfl) (by rfl)) ?_
 refine VL_pure 3 [1, 4, 6] [(1, .pointer (some ⟨b1, 0, none⟩)), (4, .slice A1 ((packT (vals l)).length) c1), (6, .int .i64 ((r : Nat) : Int))] (by kernel_rfl) rfl ?_
 refine VL_end (by kernel_rfl) ?_
 refine VQ_next ?_
 refine VC_seq ?_
 refine VC_seq ?_
 refine VC_region ?_
 refine VL_pure 1 [1, 4, 6, 19] [(1, .pointer (some ⟨b1, 0, none⟩)), (4, .slice A1 ((packT (vals l)).length) c1), (6, .int .i64 ((r : Nat) : Int)), (19, .pointer (some ⟨b1, 1, none⟩))] (by kernel_rfl) rfl ?_
 refine VL_load (d := 20) (t := 4) (a := ⟨b1, 1, none⟩) (v := .bool bk) (by kernel_rfl) (by kernel_rfl) (Loads.own1 ho1 (by kernel_rfl) (by rfl)) ?_
 refine VL_end (by kernel_rfl) ?_
 refine VQ_next ?_
 refine VC_cond bk (by kernel_rfl) (fun h1 => ?_) (fun h1 => ?_)
 ·try simp only [Bool.and_eq_true, Bool.or_eq_true, decide_eq_true_eq, Bool.not_eq_true', decide_eq_false_iff_not, Bool.and_eq_false_iff, Bool.or_eq_false_iff, beq_iff_eq, bne_iff_ne, beq_eq_false_iff_ne, bne_eq_false_iff_eq, Bool.not_eq_eq_eq_not, Bool.not_true, Bool.not_false] at h1
  refine VC_region ?_
  refine VL_pure 2 [1, 4, 22] [(1, .pointer (some ⟨b1, 0, none⟩)), (4, .slice A1 ((packT (vals l)).length) c1), (22, .int .i64 (IntKind.wrap .i64 (((r : Nat) : Int) + 8388608)))] (by kernel_rfl) rfl ?_
  obtain ⟨N, hN⟩ := msgN_ex r
  refine VL_eq [(1, .pointer (some ⟨b1, 0, none⟩)), (4, .slice A1 ((packT (vals l)).length) c1), (22, .int .i64 ((N : Nat) : Int))] (by rw [wrap_i64 _ (by omega) (by omega), ← hN]) ?_
  refine VL_pure 3 [1, 4, 6] [(1, .pointer (some ⟨b1, 0, none⟩)), (4, .slice A1 ((packT (vals l)).length) c1), (6, .int .i64 ((N : Nat) : Int))] (by kernel_rfl) rfl ?_
  refine VL_end (by kernel_rfl) ?_
  refine VQ_next ?_
  refine VC_seq ?_
  refine VC_region ?_
  refine VL_pure 9 [4, 25, 28, 30, 31] [(4, .slice A1 ((packT (vals l)).length) c1), (25, .int .u8 (IntKind.wrap .u8 (((N : Nat) : Int).fdiv (2 ^ 16)))), (28, .int .u8 (IntKind.wrap .u8 (((N : Nat) : Int).fdiv (2 ^ 8)))), (30, .int .u8 (IntKind.wrap .u8 ((N : Nat) : Int))), (31, .pointer (some ⟨b1, 2, none⟩))] (by kernel_rfl) rfl ?_
  refine VL_load (d := 32) (t := 3) (a := ⟨b1, 2, none⟩) (v := .int .i64 k) (by kernel_rfl) (by kernel_rfl) (Loads.own1 ho1 (by kernel_rfl) (by rfl)) ?_
  refine VL_pure 18 [4, 25, 28, 30, 33, 37, 40] [(4, .slice A1 ((packT (vals l)).length) c1), (25, .int .u8 (IntKind.wrap .u8 (((N : Nat) : Int).fdiv (2 ^ 16)))), (28, .int .u8 (IntKind.wrap .u8 (((N : Nat) : Int).fdiv (2 ^ 8)))), (30, .int .u8 (IntKind.wrap .u8 ((N : Nat) : Int))), (33, .int .u8 (IntKind.wrap .u8 k)), (37, .int .u8 (IntKind.wrap .u8 ((((packT (vals l)).length : Nat) : Int).fdiv (2 ^ 8)))), (40, .int .u8 (IntKind.wrap .u8 (((packT (vals l)).length : Nat) : Int)))] (by kernel_rfl) rfl ?_
  have hzs4 := hS.size
  have hzl3 := ho1.lt
  have hzk1 := hbase1
  have hub1 := hr1.ub
  refine VL_bs (d := 41) (e := 5) (c := #[.int .u8 9, .int .u8 3, .int .u8 (IntKind.wrap .u8 (((N : Nat) : Int).fdiv (2 ^ 16))), .int .u8 (IntKind.wrap .u8 (((N : Nat) : Int).fdiv (2 ^ 8))), .int .u8 (IntKind.wrap .u8 ((N : Nat) : Int)), .int .u8 (IntKind.wrap .u8 k), .int .u8 128, .int .u8 (IntKind.wrap .u8 ((((packT (vals l)).length : Nat) : Int).fdiv (2 ^ 8))), .int .u8 (IntKind.wrap .u8 (((packT (vals l)).length : Nat) : Int))]) (len := 9) (by kernel_rfl) (by kernel_rfl) ?_
  intro b2 w4 hn2
  replace hS := Step.trans hS (hn2.step No)
  replace hA := hA.no (hn2.step No)
  replace ho1 := ho1.no (hn2.step No)
  replace hbase1 := Nat.le_trans hbase1 (hn2.step No).size
  replace hr1 := hr1.no (hn2.step No)
  have ho2 := hn2.own
  have hzhn2 := hn2.size
  have hqhn2 := hn2.eqb
  refine VL_pure 20 [41, 42] [(41, .slice (some ⟨b2, 0, none⟩) 9 9), (42, .slice A1 ((packT (vals l)).length) c1)] (by kernel_rfl) rfl ?_
  have hzs5 := hS.size
  have hzl4 := ho1.lt
  have hzk2 := hbase1
  have hzl5 := ho2.lt
  have hbase2 := Nat.le_of_lt ho2.lt
  refine VL_appendT (d := 43) (e := 5) (A := (some ⟨b2, 0, none⟩)) (m := 9) (c := 9) (A2 := A1) (m2 := ((packT (vals l)).length)) (c2 := c1) (bytes := 1) (by kernel_rfl) (by kernel_rfl) (by kernel_rfl) b2 w4.heap.size (iL .u8 ([9, 3, IntKind.wrap .u8 (((N : Nat) : Int).fdiv (2 ^ 16)), IntKind.wrap .u8 (((N : Nat) : Int).fdiv (2 ^ 8)), IntKind.wrap .u8 ((N : Nat) : Int), IntKind.wrap .u8 k, 128, IntKind.wrap .u8 ((((packT (vals l)).length : Nat) : Int).fdiv (2 ^ 8)), IntKind.wrap .u8 (((packT (vals l)).length : Nat) : Int)])) (iL .u8 (packT (vals l))) (Rw.of_new ho2 (Nat.le_refl _) (Nat.le_of_ble_eq_true (by kernel_rfl))) (by rw [iL_length]; first | done | exact (Rw.lenI hr1)) (Sl.mono (Rw.slI hr1) (by first | exact Nat.le_refl _ | omega)) iL_one ((packT (vals l)).length + 9) (by omega) (by simp only [maxLen]; omega) (by omega) (by omega) ?_
  intro A2 c2 w5 hr2 hg1
  replace hr2 : Rw w5 b2 5 A2 ((packT (vals l)).length + 9) c2 (iL .u8 (([9, 3, IntKind.wrap .u8 (((N : Nat) : Int).fdiv (2 ^ 16)), IntKind.wrap .u8 (((N : Nat) : Int).fdiv (2 ^ 8)), IntKind.wrap .u8 ((N : Nat) : Int), IntKind.wrap .u8 k, 128, IntKind.wrap .u8 ((((packT (vals l)).length : Nat) : Int).fdiv (2 ^ 8)), IntKind.wrap .u8 (((packT (vals l)).length : Nat) : Int)]) ++ (packT (vals l)))) := Rw.cast hr2 rfl (by simp only [iL, List.map_append, List.map_cons, List.map_nil, List.append_assoc, List.cons_append, List.nil_append, List.append_nil])
  have hzhg1 := hg1.size
  have hg1S : Step (fun k => b2 ≤ k ∧ (k < b1 ∨ b1 < k)) _ _ := Step.mono hg1 (fun i hi => ⟨hi.1, Nat.lt_or_gt_of_ne (hi.2.ne ho1 (by decide))⟩)
  replace hS := Step.transNew hS hg1S (fun i hi hG => by (try simp only at hG); omega)
  replace hA := hA.step hg1S (fun k hk1 hk2 hG => by (try simp only at hG); omega)
  replace ho1 := ho1.step hg1S (by (try simp only); omega)
  replace hbase1 := Nat.le_trans hbase1 (hg1S).size
  replace hr1 := hr1.stepU hub1 hg1S (fun k hk hk2 hG => by (try simp only at hG); omega)
  replace hbase2 := Nat.le_trans hbase2 (hg1S).size
  refine VL_pure 22 [7] [(7, .slice A2 ((packT (vals l)).length + 9) c2)] (by kernel_rfl) rfl ?_
  refine VL_end (by kernel_rfl) ?_
  refine VQ_next ?_
  refine VC_seq ?_
  refine VC_seq ?_
  refine VC_region ?_
  refine VL_pure 3 [7, 46] [(7, .slice A2 ((packT (vals l)).length + 9) c2), (46, .bool (decide ((((packT (vals l)).length + 9 : Nat) : Int) > 1000)))] (by kernel_rfl) rfl ?_
  refine VL_end (by kernel_rfl) ?_
  refine VQ_next ?_
  refine VC_dec ((((packT (vals l)).length + 9 : Nat) : Int) > 1000) (by kernel_rfl) (fun h2 => ?_) (fun h2 => ?_)
  ·refine VC_seq ?_
   refine VC_region ?_
   refine VL_pure 2 [2, 3] [(2, .slice none 0 0), (3, .int .i64 6)] (by kernel_rfl) rfl ?_
   refine VL_end (by kernel_rfl) ?_
   refine VQ_next ?_
   refine VC_ret ?_
   refine VQ_then_ret ?_
   refine VQ_ret2 (.slice none 0 0) (.int .i64 6) (.inr rfl) rfl rfl rfl ?_
   exact MsgR.no (msg_long hr (by omega)) hS
  ·refine VC_skip ?_
   refine VQ_next ?_
   refine VC_seq ?_
   refine VC_region ?_
   refine VL_pure 3 [2, 3] [(2, .slice A2 ((packT (vals l)).length + 9) c2), (3, .int .i64 0)] (by kernel_rfl) rfl ?_
   refine VL_end (by kernel_rfl) ?_
   refine VQ_next ?_
   refine VC_ret ?_
   refine VQ_ret2 (.slice A2 ((packT (vals l)).length + 9) c2) (.int .i64 0) (.inr rfl) rfl rfl rfl ?_
   exact MsgR.yes (msg_yes hr (by omega)).1 hr2 (by rw [hd_sh]; exact msg_row hr (by omega) (by first | exact msgN_T (by assumption) hN | exact msgN_F (by assumption))) (by omega) hS
 ·try simp only [Bool.and_eq_true, Bool.or_eq_true, decide_eq_true_eq, Bool.not_eq_true', decide_eq_false_iff_not, Bool.and_eq_false_iff, Bool.or_eq_false_iff, beq_iff_eq, bne_iff_ne, beq_eq_false_iff_ne, bne_eq_false_iff_eq, Bool.not_eq_eq_eq_not, Bool.not_true, Bool.not_false] at h1
  refine VC_skip ?_
  refine VQ_next ?_
  refine VC_seq ?_
  refine VC_region ?_
  refine VL_pure 9 [4, 25, 28, 30, 31] [(4, .slice A1 ((packT (vals l)).length) c1), (25, .int .u8 (IntKind.wrap .u8 (((r : Nat) : Int).fdiv (2 ^ 16)))), (28, .int .u8 (IntKind.wrap .u8 (((r : Nat) : Int).fdiv (2 ^ 8)))), (30, .int .u8 (IntKind.wrap .u8 ((r : Nat) : Int))), (31, .pointer (some ⟨b1, 2, none⟩))] (by kernel_rfl) rfl ?_
  refine VL_load (d := 32) (t := 3) (a := ⟨b1, 2, none⟩) (v := .int .i64 k) (by kernel_rfl) (by kernel_rfl) (Loads.own1 ho1 (by kernel_rfl) (by rfl)) ?_
  refine VL_pure 18 [4, 25, 28, 30, 33, 37, 40] [(4, .slice A1 ((packT (vals l)).length) c1), (25, .int .u8 (IntKind.wrap .u8 (((r : Nat) : Int).fdiv (2 ^ 16)))), (28, .int .u8 (IntKind.wrap .u8 (((r : Nat) : Int).fdiv (2 ^ 8)))), (30, .int .u8 (IntKind.wrap .u8 ((r : Nat) : Int))), (33, .int .u8 (IntKind.wrap .u8 k)), (37, .int .u8 (IntKind.wrap .u8 ((((packT (vals l)).length : Nat) : Int).fdiv (2 ^ 8)))), (40, .int .u8 (IntKind.wrap .u8 (((packT (vals l)).length : Nat) : Int)))] (by kernel_rfl) rfl ?_
  have hzs6 := hS.size
  have hzl6 := ho1.lt
  have hzk3 := hbase1
  have hub2 := hr1.ub
  refine VL_bs (d := 41) (e := 5) (c := #[.int .u8 9, .int .u8 3, .int .u8 (IntKind.wrap .u8 (((r : Nat) : Int).fdiv (2 ^ 16))), .int .u8 (IntKind.wrap .u8 (((r : Nat) : Int).fdiv (2 ^ 8))), .int .u8 (IntKind.wrap .u8 ((r : Nat) : Int)), .int .u8 (IntKind.wrap .u8 k), .int .u8 128, .int .u8 (IntKind.wrap .u8 ((((packT (vals l)).length : Nat) : Int).fdiv (2 ^ 8))), .int .u8 (IntKind.wrap .u8 (((packT (vals l)).length : Nat) : Int))]) (len := 9) (by kernel_rfl) (by kernel_rfl) ?_
  intro b3 w6 hn3
  replace hS := Step.trans hS (hn3.step No)
  replace hA := hA.no (hn3.step No)
  replace ho1 := ho1.no (hn3.step No)
  replace hbase1 := Nat.le_trans hbase1 (hn3.step No).size
  replace hr1 := hr1.no (hn3.step No)
  have ho3 := hn3.own
  have hzhn3 := hn3.size
  have hqhn3 := hn3.eqb
  refine VL_pure 20 [41, 42] [(41, .slice (some ⟨b3, 0, none⟩) 9 9), (42, .slice A1 ((packT (vals l)).length) c1)] (by kernel_rfl) rfl ?_
  have hzs7 := hS.size
  have hzl7 := ho1.lt
  have hzk4 := hbase1
  have hzl8 := ho3.lt
  have hbase3 := Nat.le_of_lt ho3.lt
  refine VL_appendT (d := 43) (e := 5) (A := (some ⟨b3, 0, none⟩)) (m := 9) (c := 9) (A2 := A1) (m2 := ((packT (vals l)).length)) (c2 := c1) (bytes := 1) (by kernel_rfl) (by kernel_rfl) (by kernel_rfl) b3 w6.heap.size (iL .u8 ([9, 3, IntKind.wrap .u8 (((r : Nat) : Int).fdiv (2 ^ 16)), IntKind.wrap .u8 (((r : Nat) : Int).fdiv (2 ^ 8)), IntKind.wrap .u8 ((r : Nat) : Int), IntKind.wrap .u8 k, 128, IntKind.wrap .u8 ((((packT (vals l)).length : Nat) : Int).fdiv (2 ^ 8)), IntKind.wrap .u8 (((packT (vals l)).length : Nat) : Int)])) (iL .u8 (packT (vals l))) (Rw.of_new ho3 (Nat.le_refl _) (Nat.le_of_ble_eq_true (by kernel_rfl))) (by rw [iL_length]; first | done | exact (Rw.lenI hr1)) (Sl.mono (Rw.slI hr1) (by first | exact Nat.le_refl _ | omega)) iL_one ((packT (vals l)).length + 9) (by omega) (by simp only [maxLen]; omega) (by omega) (by omega) ?_
  intro A3 c3 w7 hr3 hg2
  replace hr3 : Rw w7 b3 5 A3 ((packT (vals l)).length + 9) c3 (iL .u8 (([9, 3, IntKind.wrap .u8 (((r : Nat) : Int).fdiv (2 ^ 16)), IntKind.wrap .u8 (((r : Nat) : Int).fdiv (2 ^ 8)), IntKind.wrap .u8 ((r : Nat) : Int), IntKind.wrap .u8 k, 128, IntKind.wrap .u8 ((((packT (vals l)).length : Nat) : Int).fdiv (2 ^ 8)), IntKind.wrap .u8 (((packT (vals l)).length : Nat) : Int)]) ++ (packT (vals l)))) := Rw.cast hr3 rfl (by simp only [iL, List.map_append, List.map_cons, List.map_nil, List.append_assoc, List.cons_append, List.nil_append, List.append_nil])
  have hzhg2 := hg2.size
  have hg2S : Step (fun k => b3 ≤ k ∧ (k < b1 ∨ b1 < k)) _ _ := Step.mono hg2 (fun i hi => ⟨hi.1, Nat.lt_or_gt_of_ne (hi.2.ne ho1 (by decide))⟩)
  replace hS := Step.transNew hS hg2S (fun i hi hG => by (try simp only at hG); omega)
  replace hA := hA.step hg2S (fun k hk1 hk2 hG => by (try simp only at hG); omega)
  replace ho1 := ho1.step hg2S (by (try simp only); omega)
  replace hbase1 := Nat.le_trans hbase1 (hg2S).size
  replace hr1 := hr1.stepU hub2 hg2S (fun k hk hk2 hG => by (try simp only at hG); omega)
  replace hbase3 := Nat.le_trans hbase3 (hg2S).size
  refine VL_pure 22 [7] [(7, .slice A3 ((packT (vals l)).length + 9) c3)] (by kernel_rfl) rfl ?_
  refine VL_end (by kernel_rfl) ?_
  refine VQ_next ?_
  refine VC_seq ?_
  refine VC_seq ?_
  refine VC_region ?_
  refine VL_pure 3 [7, 46] [(7, .slice A3 ((packT (vals l)).length + 9) c3), (46, .bool (decide ((((packT (vals l)).length + 9 : Nat) : Int) > 1000)))] (by kernel_rfl) rfl ?_
  refine VL_end (by kernel_rfl) ?_
  refine VQ_next ?_
  refine VC_dec ((((packT (vals l)).length + 9 : Nat) : Int) > 1000) (by kernel_rfl) (fun h3 => ?_) (fun h3 => ?_)
  ·refine VC_seq ?_
   refine VC_region ?_
   refine VL_pure 2 [2, 3] [(2, .slice none 0 0), (3, .int .i64 6)] (by kernel_rfl) rfl ?_
   refine VL_end (by kernel_rfl) ?_
   refine VQ_next ?_
   refine VC_ret ?_
   refine VQ_then_ret ?_
   refine VQ_ret2 (.slice none 0 0) (.int .i64 6) (.inr rfl) rfl rfl rfl ?_
   exact MsgR.no (msg_long hr (by omega)) hS
  ·refine VC_skip ?_
   refine VQ_next ?_
   refine VC_seq ?_
   refine VC_region ?_
   refine VL_pure 3 [2, 3] [(2, .slice A3 ((packT (vals l)).length + 9) c3), (3, .int .i64 0)] (by kernel_rfl) rfl ?_
   refine VL_end (by kernel_rfl) ?_
   refine VQ_next ?_
   refine VC_ret ?_
   refine VQ_ret2 (.slice A3 ((packT (vals l)).length + 9) c3) (.int .i64 0) (.inr rfl) rfl rfl rfl ?_
   exact MsgR.yes (msg_yes hr (by omega)).1 hr3 (by rw [hd_sh]; exact msg_row hr (by omega) (by first | exact msgN_T (by assumption) hN | exact msgN_F (by assumption))) (by omega) hS

theorem msgpack_any (r : Int) (bk : Bool) (k : Int) (A : Option Addr) (n c lo hi : Nat) (l : List IeV) (w : World) (hn : l.length = n) (hA : Ies w lo hi A l) (hlen : n ≤ 1000000) (hhi : hi ≤ w.heap.size) : CV Try.prog 11 #[.agg #[.int .i64 r, .bool bk, .int .i64 k, .slice A n c]] w (fun x w1 => PackR w w1 5 x (msgT r bk k (vals l)) (msgE r bk k (vals l))) := by
  by_cases hr : rightM r k (vals l) = true
  · have h1 := (rightM_T hr).1
    obtain ⟨r, rfl⟩ : ∃ m : Nat, r = m := ⟨r.toNat, by omega⟩
    exact msgpack_yes r bk k A n c lo hi l w hn hA hlen hhi hr
  · exact msgpack_no r bk k A n c lo hi l w hn hA hlen hhi (by simpa using hr)

end Go.Proofs.Ytejpcmjokamdcaa
end

section
/- Layer 16: Unpack, Same, few; both sides. -/
set_option linter.unusedVariables false
set_option linter.unusedSimpArgs false
namespace Go.Proofs.Ytejpcmjokamdcaa
open Go.Vc Go.RowKit

theorem muL_count (bs : List Int) : (muL bs).length ≤ 16 := by
  unfold muL
  split
  · exact ieU_count _ [] (by simp)
  · simp
theorem muL_bytes {bs : List Int} (hb : Bytes bs) : ∀ x ∈ muL bs, (0 ≤ x.1 ∧ x.1 < 256) ∧ Bytes x.2 ∧ x.2.length ≤ 200 := by
  unfold muL
  split
  · exact ieU_bytes _ [] (hb.drop _) (fun x hx => by simp at hx)
  · intro x hx; simp at hx
theorem mu_ieb {l : List IeV} {bs : List Int} (h : vals l = muL bs) (hb : Bytes bs) : ∀ x ∈ l, IeB x := by
  intro x hx
  have := muL_bytes hb x.val (by rw [← h]; exact List.mem_map_of_mem hx)
  exact ⟨this.1, this.2.1⟩
theorem mu_small {w : World} {lo hi : Nat} {A : Option Addr} {l : List IeV} {bs : List Int} (hI : Ies w lo hi A l) (h : vals l = muL bs) (hb : Bytes bs) : ∀ x ∈ l, x.n ≤ 200 := by
  intro x hx
  have := muL_bytes hb x.val (by rw [← h]; exact List.mem_map_of_mem hx)
  have h2 := (hI.all x hx).len
  have h3 : x.val.2 = x.bs := rfl
  rw [h3] at this
  omega
set_option maxRecDepth 100000 in
set_option maxHeartbeats 4000000 in
theorem msgun_any (A : Option Addr) (n c Bd : Nat) (bs : List Int) (w : World) (hn : bs.length = n) (hA : Sl w Bd A (iL .u8 bs)) (hc : n ≤ c) (hb : Bytes bs) (hlen : n ≤ 100000) (hBd : Bd ≤ w.heap.size) :
  CV Try.prog 13 #[.slice A n c] w (fun x w1 => MuR w w1 60 5 x bs) := by
 have hS : Step No w w := Step.refl _ _
 have hNl := muN_lt hb
 have hSl := muS_lt hb
 refine CV_enter Try.f13 _ 110 [(0, .slice A n c)] Try.func13 rfl rfl (by kernel_rfl) rfl ?_
 refine VC_seq ?_
 refine VC_region ?_
 have hzs1 := hS.size
 refine VL_box (d := 2) (t := 24) (c := #[.int .i64 0, .bool false, .int .i64 0, .slice none 0 0]) (by kernel_rfl) (by kernel_rfl) ?_
 intro b1 w1 hn1
 replace hS := Step.trans hS (hn1.step No)
 replace hA := hA.no (hn1.step No)
 have ho1 := hn1.own
 have hzhn1 := hn1.size
 have hqhn1 := hn1.eqb
 refine VL_pure 2 [0, 2] [(0, .slice A n c), (2, .pointer (some ⟨b1, 0, none⟩))] (by kernel_rfl) rfl ?_
 refine VL_end (by kernel_rfl) ?_
 refine VQ_next ?_
 refine VC_seq ?_
 refine VC_block ?_
 refine VC_seq ?_
 refine VC_region ?_
 refine VL_pure 4 [0, 2, 9] [(0, .slice A n c), (2, .pointer (some ⟨b1, 0, none⟩)), (9, .bool (decide (((n : Nat) : Int) > 1000)))] (by kernel_rfl) rfl ?_
 refine VL_end (by kernel_rfl) ?_
 refine VQ_next ?_
 refine VC_dec (((n : Nat) : Int) > 1000) (by kernel_rfl) (fun h1 => ?_) (fun h1 => ?_)
 ·refine VC_seq ?_
  refine VC_region ?_
  refine VL_pure 1 [2, 13] [(2, .pointer (some ⟨b1, 0, none⟩)), (13, .agg #[.int .i64 0, .bool false, .int .i64 0, .slice none 0 0])] (by kernel_rfl) rfl ?_
  refine VL_store (b := b1) (o := 0) (vs := [.int .i64 0, .bool false, .int .i64 0, .slice none 0 0]) (by kernel_rfl) (by kernel_rfl) ho1 (Nat.le_of_ble_eq_true (by kernel_rfl)) ?_
  intro w2 hw1
  replace hS := Step.transNew hS hw1.step (fun _ _ _ => by omega)
  replace hA := hA.step hw1.step (fun k hk (hF : k = b1) => by omega)
  have ho2 : Own w2 b1 #[.int .i64 0, .bool false, .int .i64 0, .slice none 0 0] 24 := Own.cast hw1.own (by kernel_rfl)
  have hzhw1 := hw1.same
  refine VL_pure 3 [2, 3] [(2, .pointer (some ⟨b1, 0, none⟩)), (3, .int .i64 6)] (by kernel_rfl) rfl ?_
  refine VL_end (by kernel_rfl) ?_
  refine VQ_next ?_
  refine VC_ret ?_
  refine VQ_block_ret ?_
  refine VQ_then_ret ?_
  refine VQ_retC1T1 (T := 24) (.agg #[.int .i64 0, .bool false, .int .i64 0, .slice none 0 0]) (.int .i64 6) (.inr rfl) rfl rfl rfl (Loads.ownL ho2 (n := 4) (by kernel_rfl) (by kernel_rfl) (by kernel_rfl)) ?_
  exact MuR.no (by exact mu_6 (by omega)) (by decide) hS
 ·refine VC_seq ?_
  refine VC_region ?_
  refine VL_pure 4 [0, 2, 14] [(0, .slice A n c), (2, .pointer (some ⟨b1, 0, none⟩)), (14, .bool (decide (((n : Nat) : Int) < 9)))] (by kernel_rfl) rfl ?_
  refine VL_end (by kernel_rfl) ?_
  refine VQ_next ?_
  refine VC_dec (((n : Nat) : Int) < 9) (by kernel_rfl) (fun h2 => ?_) (fun h2 => ?_)
  ·refine VC_seq ?_
   refine VC_region ?_
   refine VL_pure 1 [2, 18] [(2, .pointer (some ⟨b1, 0, none⟩)), (18, .agg #[.int .i64 0, .bool false, .int .i64 0, .slice none 0 0])] (by kernel_rfl) rfl ?_
   refine VL_store (b := b1) (o := 0) (vs := [.int .i64 0, .bool false, .int .i64 0, .slice none 0 0]) (by kernel_rfl) (by kernel_rfl) ho1 (Nat.le_of_ble_eq_true (by kernel_rfl)) ?_
   intro w3 hw2
   replace hS := Step.transNew hS hw2.step (fun _ _ _ => by omega)
   replace hA := hA.step hw2.step (fun k hk (hF : k = b1) => by omega)
   have ho3 : Own w3 b1 #[.int .i64 0, .bool false, .int .i64 0, .slice none 0 0] 24 := Own.cast hw2.own (by kernel_rfl)
   have hzhw2 := hw2.same
   refine VL_pure 3 [2, 3] [(2, .pointer (some ⟨b1, 0, none⟩)), (3, .int .i64 2)] (by kernel_rfl) rfl ?_
   refine VL_end (by kernel_rfl) ?_
   refine VQ_next ?_
   refine VC_ret ?_
   refine VQ_block_ret ?_
   refine VQ_then_ret ?_
   refine VQ_retC1T1 (T := 24) (.agg #[.int .i64 0, .bool false, .int .i64 0, .slice none 0 0]) (.int .i64 2) (.inr rfl) rfl rfl rfl (Loads.ownL ho3 (n := 4) (by kernel_rfl) (by kernel_rfl) (by kernel_rfl)) ?_
   exact MuR.no (by first | exact mu_2 (by omega) (by omega) | exact mu_2b (by omega) (by omega) ⟨by omega, by omega, by omega, by omega⟩ (by assumption) (by omega)) (by decide) hS
  ·refine VC_skip ?_
   refine VQ_block_normal ?_
   refine VQ_next ?_
   refine VC_seq ?_
   obtain ⟨sb1, so1, rfl, hlbsb1⟩ := hA.open (by simp only [iL_length]; omega)
   have hs1 := drew_step w1
   have hs1z : w1.heap.size = w1.drew.heap.size := rfl
   refine VC_text [[], [0], [0, 1], [0, 1, 2], [0, 1, 2, 3], [], [5], [5, 6], [5, 6, 7], [5, 6, 7, 8], [0, 1, 2, 3, 4, 5, 6, 7, 8, 9], [], [11], [11, 12], [11, 12, 13], [0, 1, 2, 3, 4, 5, 6, 7, 8, 9, 10, 11, 12, 13, 14], [0, 1, 2, 3, 4, 5, 6, 7, 8, 9, 10, 11, 12, 13, 14, 15]] 15 (fun x y => Step (fun k => w1.heap.size ≤ k) x y) [] [0, 1, 2, 3, 4, 5, 6, 7, 8, 9, 10, 11, 12, 13, 14] (by kernel_rfl) (by kernel_rfl) (by kernel_rfl) (by kernel_rfl) (fun x => Step.refl _ x) (fun h k => Step.trans h k) Step.weak ?_
   have hzs2 := hS.size
   have hzl1 := ho1.lt
   generalize w1.drew = w4 at hs1 hs1z ⊢
   replace hS := Step.trans hS hs1
   replace hA := hA.no hs1
   replace ho1 := ho1.no hs1
   refine VT_pures 1 (kn' := [(0, .slice (some ⟨sb1, so1, none⟩) n c)]) (by kernel_rfl) ?_
   refine VT_index (d := 20) (b := sb1) (o := so1) (len := n) (sz := 1) (mm := 2) (by kernel_rfl) (by kernel_rfl) 2 (by rfl) (by omega) (so1 + 2) (by omega) ?_
   refine VT_load (d := 21) (t := 5) (a := ⟨sb1, so1 + 2, none⟩) (v := .int .u8 (bs.getD 2 0)) (by kernel_rfl) (by kernel_rfl) ?_ ?_
   ·intro w5 hr1
    replace hS := Step.transNew hS hr1 (fun i hi hG => by (try simp only at hG); omega)
    replace hA := hA.keepB hr1 (by (try simp only); omega)
    replace ho1 := ho1.step hr1 (by (try simp only); omega)
    exact (Sl.ldI hA (by kernel_rfl) 2 (by (try simp only [List.length_set, List.length_append, List.length_map, List.length_replicate, List.length_cons, List.length_nil, List.length_take, List.length_drop, List.length_range]) <;> omega))
   refine VT_pures 3 (kn' := [(5, .slice (some ⟨sb1, so1, none⟩) n c), (4, .int .i64 (IntKind.wrap .i64 ((IntKind.wrap .i64 (bs.getD 2 0)) * 2 ^ 16))), (3, .int .i64 (IntKind.wrap .i64 (bs.getD 2 0))), (2, .int .u8 (bs.getD 2 0)), (1, .pointer (some ⟨sb1, so1 + 2, none⟩)), (0, .slice (some ⟨sb1, so1, none⟩) n c)]) (by kernel_rfl) ?_
   refine VT_index (d := 25) (b := sb1) (o := so1) (len := n) (sz := 1) (mm := 3) (by kernel_rfl) (by kernel_rfl) 3 (by rfl) (by omega) (so1 + 3) (by omega) ?_
   refine VT_load (d := 26) (t := 5) (a := ⟨sb1, so1 + 3, none⟩) (v := .int .u8 (bs.getD 3 0)) (by kernel_rfl) (by kernel_rfl) ?_ ?_
   ·intro w6 hr2
    replace hS := Step.transNew hS hr2 (fun i hi hG => by (try simp only at hG); omega)
    replace hA := hA.keepB hr2 (by (try simp only); omega)
    replace ho1 := ho1.step hr2 (by (try simp only); omega)
    exact (Sl.ldI hA (by kernel_rfl) 3 (by (try simp only [List.length_set, List.length_append, List.length_map, List.length_replicate, List.length_cons, List.length_nil, List.length_take, List.length_drop, List.length_range]) <;> omega))
   refine VT_pures 4 (kn' := [(11, .slice (some ⟨sb1, so1, none⟩) n c), (10, .int .i64 (bOr .i64 (IntKind.wrap .i64 ((IntKind.wrap .i64 (bs.getD 2 0)) * 2 ^ 16)) (IntKind.wrap .i64 ((IntKind.wrap .i64 (bs.getD 3 0)) * 2 ^ 8)))), (9, .int .i64 (IntKind.wrap .i64 ((IntKind.wrap .i64 (bs.getD 3 0)) * 2 ^ 8))), (8, .int .i64 (IntKind.wrap .i64 (bs.getD 3 0))), (7, .int .u8 (bs.getD 3 0)), (6, .pointer (some ⟨sb1, so1 + 3, none⟩)), (5, .slice (some ⟨sb1, so1, none⟩) n c), (4, .int .i64 (IntKind.wrap .i64 ((IntKind.wrap .i64 (bs.getD 2 0)) * 2 ^ 16))), (3, .int .i64 (IntKind.wrap .i64 (bs.getD 2 0))), (2, .int .u8 (bs.getD 2 0)), (1, .pointer (some ⟨sb1, so1 + 2, none⟩)), (0, .slice (some ⟨sb1, so1, none⟩) n c)]) (by kernel_rfl) ?_
   refine VT_index (d := 31) (b := sb1) (o := so1) (len := n) (sz := 1) (mm := 4) (by kernel_rfl) (by kernel_rfl) 4 (by rfl) (by omega) (so1 + 4) (by omega) ?_
   refine VT_load (d := 32) (t := 5) (a := ⟨sb1, so1 + 4, none⟩) (v := .int .u8 (bs.getD 4 0)) (by kernel_rfl) (by kernel_rfl) ?_ ?_
   ·intro w7 hr3
    replace hS := Step.transNew hS hr3 (fun i hi hG => by (try simp only at hG); omega)
    replace hA := hA.keepB hr3 (by (try simp only); omega)
    replace ho1 := ho1.step hr3 (by (try simp only); omega)
    exact (Sl.ldI hA (by kernel_rfl) 4 (by (try simp only [List.length_set, List.length_append, List.length_map, List.length_replicate, List.length_cons, List.length_nil, List.length_take, List.length_drop, List.length_range]) <;> omega))
   refine VT_pures 1 (kn' := [(14, .int .i64 (IntKind.wrap .i64 (bs.getD 4 0))), (13, .int .u8 (bs.getD 4 0)), (12, .pointer (some ⟨sb1, so1 + 4, none⟩)), (11, .slice (some ⟨sb1, so1, none⟩) n c), (10, .int .i64 (bOr .i64 (IntKind.wrap .i64 ((IntKind.wrap .i64 (bs.getD 2 0)) * 2 ^ 16)) (IntKind.wrap .i64 ((IntKind.wrap .i64 (bs.getD 3 0)) * 2 ^ 8)))), (9, .int .i64 (IntKind.wrap .i64 ((IntKind.wrap .i64 (bs.getD 3 0)) * 2 ^ 8))), (8, .int .i64 (IntKind.wrap .i64 (bs.getD 3 0))), (7, .int .u8 (bs.getD 3 0)), (6, .pointer (some ⟨sb1, so1 + 3, none⟩)), (5, .slice (some ⟨sb1, so1, none⟩) n c), (4, .int .i64 (IntKind.wrap .i64 ((IntKind.wrap .i64 (bs.getD 2 0)) * 2 ^ 16))), (3, .int .i64 (IntKind.wrap .i64 (bs.getD 2 0))), (2, .int .u8 (bs.getD 2 0)), (1, .pointer (some ⟨sb1, so1 + 2, none⟩)), (0, .slice (some ⟨sb1, so1, none⟩) n c)]) (by kernel_rfl) ?_
   refine VT_end ?_
   intro w8 hs2
   replace hS := Step.trans hS hs2
   replace hA := hA.no hs2
   replace ho1 := ho1.no hs2
   refine VL_keep [0, 2, 29, 33] [(0, .slice (some ⟨sb1, so1, none⟩) n c), (2, .pointer (some ⟨b1, 0, none⟩)), (29, .int .i64 (bOr .i64 (IntKind.wrap .i64 ((IntKind.wrap .i64 (bs.getD 2 0)) * 2 ^ 16)) (IntKind.wrap .i64 ((IntKind.wrap .i64 (bs.getD 3 0)) * 2 ^ 8)))), (33, .int .i64 (IntKind.wrap .i64 (bs.getD 4 0)))] (by kernel_rfl) ?_
   refine VL_pure 16 [0, 2, 34] [(0, .slice (some ⟨sb1, so1, none⟩) n c), (2, .pointer (some ⟨b1, 0, none⟩)), (34, .int .i64 (bOr .i64 (bOr .i64 (IntKind.wrap .i64 ((IntKind.wrap .i64 (bs.getD 2 0)) * 2 ^ 16)) (IntKind.wrap .i64 ((IntKind.wrap .i64 (bs.getD 3 0)) * 2 ^ 8))) (IntKind.wrap .i64 (bs.getD 4 0))))] (by kernel_rfl) rfl ?_
   refine VL_eq [(0, .slice (some ⟨sb1, so1, none⟩) n c), (2, .pointer (some ⟨b1, 0, none⟩)), (34, .int .i64 ((muN bs : Nat) : Int))] (by rw [mu_or hb]) ?_
   refine VL_pure 17 [0, 2, 4] [(0, .slice (some ⟨sb1, so1, none⟩) n c), (2, .pointer (some ⟨b1, 0, none⟩)), (4, .int .i64 ((muN bs : Nat) : Int))] (by kernel_rfl) rfl ?_
   refine VL_end (by kernel_rfl) ?_
   refine VQ_next ?_
   refine VC_seq ?_
   refine VC_region ?_
   refine VL_pure 2 [0, 2, 4, 36] [(0, .slice (some ⟨sb1, so1, none⟩) n c), (2, .pointer (some ⟨b1, 0, none⟩)), (4, .int .i64 ((muN bs : Nat) : Int)), (36, .int .i64 (bAnd .i64 ((muN bs : Nat) : Int) 8388607))] (by kernel_rfl) rfl ?_
   refine VL_eq [(0, .slice (some ⟨sb1, so1, none⟩) n c), (2, .pointer (some ⟨b1, 0, none⟩)), (4, .int .i64 ((muN bs : Nat) : Int)), (36, .int .i64 ((muN bs % 8388608 : Nat) : Int))] (by rw [and_23 _ (by omega)]) ?_
   refine VL_pure 5 [0, 2, 36, 38, 39] [(0, .slice (some ⟨sb1, so1, none⟩) n c), (2, .pointer (some ⟨b1, 0, none⟩)), (36, .int .i64 ((muN bs % 8388608 : Nat) : Int)), (38, .bool (decide (((muN bs : Nat) : Int) > 8388607))), (39, .slice (some ⟨sb1, so1, none⟩) n c)] (by kernel_rfl) rfl ?_
   refine VL_index (d := 40) (b := sb1) (o := so1) (len := n) (sz := 1) (m := 5) (by kernel_rfl) (by kernel_rfl) 5 (by rfl) (by omega) (so1 + 5) (by omega) ?_
   refine VL_load (d := 41) (t := 5) (a := ⟨sb1, so1 + 5, none⟩) (v := .int .u8 (bs.getD 5 0)) (by kernel_rfl) (by kernel_rfl) (Sl.ldI hA (by kernel_rfl) 5 (by (try simp only [List.length_set, List.length_append, List.length_map, List.length_replicate, List.length_cons, List.length_nil, List.length_take, List.length_drop, List.length_range]) <;> omega)) ?_
   refine VL_pure 8 [0, 2, 36, 38, 42] [(0, .slice (some ⟨sb1, so1, none⟩) n c), (2, .pointer (some ⟨b1, 0, none⟩)), (36, .int .i64 ((muN bs % 8388608 : Nat) : Int)), (38, .bool (decide (((muN bs : Nat) : Int) > 8388607))), (42, .int .i64 (IntKind.wrap .i64 (bs.getD 5 0)))] (by kernel_rfl) rfl ?_
   refine VL_eq [(0, .slice (some ⟨sb1, so1, none⟩) n c), (2, .pointer (some ⟨b1, 0, none⟩)), (36, .int .i64 ((muN bs % 8388608 : Nat) : Int)), (38, .bool (decide (((muN bs : Nat) : Int) > 8388607))), (42, .int .i64 (bs.getD 5 0))] (by rw [mk_is hb]) ?_
   refine VL_pure 9 [0, 2, 43] [(0, .slice (some ⟨sb1, so1, none⟩) n c), (2, .pointer (some ⟨b1, 0, none⟩)), (43, .agg #[.int .i64 ((muN bs % 8388608 : Nat) : Int), .bool (decide (((muN bs : Nat) : Int) > 8388607)), .int .i64 (bs.getD 5 0), .slice none 0 0])] (by kernel_rfl) rfl ?_
   have hzs3 := hS.size
   have hzl2 := ho1.lt
   refine VL_box (d := 5) (t := 24) (c := #[.int .i64 0, .bool false, .int .i64 0, .slice none 0 0]) (by kernel_rfl) (by kernel_rfl) ?_
   intro b2 w9 hn2
   replace hS := Step.trans hS (hn2.step No)
   replace hA := hA.no (hn2.step No)
   replace ho1 := ho1.no (hn2.step No)
   have ho4 := hn2.own
   have hzhn2 := hn2.size
   have hqhn2 := hn2.eqb
   refine VL_store (b := b2) (o := 0) (vs := [.int .i64 ((muN bs % 8388608 : Nat) : Int), .bool (decide (((muN bs : Nat) : Int) > 8388607)), .int .i64 (bs.getD 5 0), .slice none 0 0]) (by kernel_rfl) (by kernel_rfl) ho4 (Nat.le_of_ble_eq_true (by kernel_rfl)) ?_
   intro w10 hw3
   replace hS := Step.transNew hS hw3.step (fun _ _ _ => by omega)
   replace hA := hA.keepB hw3.step (show ¬ sb1 = b2 by omega)
   replace ho1 := ho1.step hw3.step (show ¬ b1 = b2 by omega)
   have ho5 : Own w10 b2 #[.int .i64 ((muN bs % 8388608 : Nat) : Int), .bool (decide (((muN bs : Nat) : Int) > 8388607)), .int .i64 (bs.getD 5 0), .slice none 0 0] 24 := Own.cast hw3.own (by kernel_rfl)
   have hzhw3 := hw3.same
   refine VL_end (by kernel_rfl) ?_
   refine VQ_next ?_
   refine VC_seq ?_
   have hs3 := drew_step w10
   have hs3z : w10.heap.size = w10.drew.heap.size := rfl
   refine VC_text [[], [0], [0, 1], [0, 1, 2], [0, 1, 2, 3], [], [5], [5, 6], [5, 6, 7], [0, 1, 2, 3, 4, 5, 6, 7, 8], [0, 1, 2, 3, 4, 5, 6, 7, 8, 9]] 9 (fun x y => Step (fun k => w10.heap.size ≤ k) x y) [] [0, 1, 2, 3, 4, 5, 6, 7, 8] (by kernel_rfl) (by kernel_rfl) (by kernel_rfl) (by kernel_rfl) (fun x => Step.refl _ x) (fun h k => Step.trans h k) Step.weak ?_
   have hzs4 := hS.size
   have hzl3 := ho1.lt
   have hzl4 := ho5.lt
   generalize w10.drew = w11 at hs3 hs3z ⊢
   replace hS := Step.trans hS hs3
   replace hA := hA.no hs3
   replace ho1 := ho1.no hs3
   replace ho5 := ho5.no hs3
   refine VT_pures 1 (kn' := [(0, .slice (some ⟨sb1, so1, none⟩) n c)]) (by kernel_rfl) ?_
   refine VT_index (d := 45) (b := sb1) (o := so1) (len := n) (sz := 1) (mm := 7) (by kernel_rfl) (by kernel_rfl) 7 (by rfl) (by omega) (so1 + 7) (by omega) ?_
   refine VT_load (d := 46) (t := 5) (a := ⟨sb1, so1 + 7, none⟩) (v := .int .u8 (bs.getD 7 0)) (by kernel_rfl) (by kernel_rfl) ?_ ?_
   ·intro w12 hr4
    replace hS := Step.transNew hS hr4 (fun i hi hG => by (try simp only at hG); omega)
    replace hA := hA.keepB hr4 (by (try simp only); omega)
    replace ho1 := ho1.step hr4 (by (try simp only); omega)
    replace ho5 := ho5.step hr4 (by (try simp only); omega)
    exact (Sl.ldI hA (by kernel_rfl) 7 (by (try simp only [List.length_set, List.length_append, List.length_map, List.length_replicate, List.length_cons, List.length_nil, List.length_take, List.length_drop, List.length_range]) <;> omega))
   refine VT_pures 3 (kn' := [(5, .slice (some ⟨sb1, so1, none⟩) n c), (4, .int .i64 (IntKind.wrap .i64 ((IntKind.wrap .i64 (bs.getD 7 0)) * 2 ^ 8))), (3, .int .i64 (IntKind.wrap .i64 (bs.getD 7 0))), (2, .int .u8 (bs.getD 7 0)), (1, .pointer (some ⟨sb1, so1 + 7, none⟩)), (0, .slice (some ⟨sb1, so1, none⟩) n c)]) (by kernel_rfl) ?_
   refine VT_index (d := 50) (b := sb1) (o := so1) (len := n) (sz := 1) (mm := 8) (by kernel_rfl) (by kernel_rfl) 8 (by rfl) (by omega) (so1 + 8) (by omega) ?_
   refine VT_load (d := 51) (t := 5) (a := ⟨sb1, so1 + 8, none⟩) (v := .int .u8 (bs.getD 8 0)) (by kernel_rfl) (by kernel_rfl) ?_ ?_
   ·intro w13 hr5
    replace hS := Step.transNew hS hr5 (fun i hi hG => by (try simp only at hG); omega)
    replace hA := hA.keepB hr5 (by (try simp only); omega)
    replace ho1 := ho1.step hr5 (by (try simp only); omega)
    replace ho5 := ho5.step hr5 (by (try simp only); omega)
    exact (Sl.ldI hA (by kernel_rfl) 8 (by (try simp only [List.length_set, List.length_append, List.length_map, List.length_replicate, List.length_cons, List.length_nil, List.length_take, List.length_drop, List.length_range]) <;> omega))
   refine VT_pures 1 (kn' := [(8, .int .i64 (IntKind.wrap .i64 (bs.getD 8 0))), (7, .int .u8 (bs.getD 8 0)), (6, .pointer (some ⟨sb1, so1 + 8, none⟩)), (5, .slice (some ⟨sb1, so1, none⟩) n c), (4, .int .i64 (IntKind.wrap .i64 ((IntKind.wrap .i64 (bs.getD 7 0)) * 2 ^ 8))), (3, .int .i64 (IntKind.wrap .i64 (bs.getD 7 0))), (2, .int .u8 (bs.getD 7 0)), (1, .pointer (some ⟨sb1, so1 + 7, none⟩)), (0, .slice (some ⟨sb1, so1, none⟩) n c)]) (by kernel_rfl) ?_
   refine VT_end ?_
   intro w14 hs4
   replace hS := Step.trans hS hs4
   replace hA := hA.no hs4
   replace ho1 := ho1.no hs4
   replace ho5 := ho5.no hs4
   refine VL_keep [0, 2, 5, 48, 52] [(0, .slice (some ⟨sb1, so1, none⟩) n c), (2, .pointer (some ⟨b1, 0, none⟩)), (5, .pointer (some ⟨b2, 0, none⟩)), (48, .int .i64 (IntKind.wrap .i64 ((IntKind.wrap .i64 (bs.getD 7 0)) * 2 ^ 8))), (52, .int .i64 (IntKind.wrap .i64 (bs.getD 8 0)))] (by kernel_rfl) ?_
   refine VL_pure 10 [0, 2, 5, 53] [(0, .slice (some ⟨sb1, so1, none⟩) n c), (2, .pointer (some ⟨b1, 0, none⟩)), (5, .pointer (some ⟨b2, 0, none⟩)), (53, .int .i64 (bOr .i64 (IntKind.wrap .i64 ((IntKind.wrap .i64 (bs.getD 7 0)) * 2 ^ 8)) (IntKind.wrap .i64 (bs.getD 8 0))))] (by kernel_rfl) rfl ?_
   refine VL_eq [(0, .slice (some ⟨sb1, so1, none⟩) n c), (2, .pointer (some ⟨b1, 0, none⟩)), (5, .pointer (some ⟨b2, 0, none⟩)), (53, .int .i64 ((muS bs : Nat) : Int))] (by rw [ms_or hb]) ?_
   refine VL_pure 11 [0, 2, 5, 6] [(0, .slice (some ⟨sb1, so1, none⟩) n c), (2, .pointer (some ⟨b1, 0, none⟩)), (5, .pointer (some ⟨b2, 0, none⟩)), (6, .int .i64 ((muS bs : Nat) : Int))] (by kernel_rfl) rfl ?_
   refine VL_end (by kernel_rfl) ?_
   refine VQ_next ?_
   refine VC_seq ?_
   refine VC_block ?_
   refine VC_seq ?_
   refine VC_region ?_
   refine VL_pure 1 [0, 2, 5, 6, 55] [(0, .slice (some ⟨sb1, so1, none⟩) n c), (2, .pointer (some ⟨b1, 0, none⟩)), (5, .pointer (some ⟨b2, 0, none⟩)), (6, .int .i64 ((muS bs : Nat) : Int)), (55, .slice (some ⟨sb1, so1, none⟩) n c)] (by kernel_rfl) rfl ?_
   refine VL_index (d := 56) (b := sb1) (o := so1) (len := n) (sz := 1) (m := 0) (by kernel_rfl) (by kernel_rfl) 0 (by rfl) (by omega) so1 (by omega) ?_
   refine VL_load (d := 57) (t := 5) (a := ⟨sb1, so1, none⟩) (v := .int .u8 (bs.getD 0 0)) (by kernel_rfl) (by kernel_rfl) (Sl.ldI hA (by kernel_rfl) 0 (by (try simp only [List.length_set, List.length_append, List.length_map, List.length_replicate, List.length_cons, List.length_nil, List.length_take, List.length_drop, List.length_range]) <;> omega)) ?_
   refine VL_pure 5 [0, 2, 5, 6, 59] [(0, .slice (some ⟨sb1, so1, none⟩) n c), (2, .pointer (some ⟨b1, 0, none⟩)), (5, .pointer (some ⟨b2, 0, none⟩)), (6, .int .i64 ((muS bs : Nat) : Int)), (59, .bool ((bs.getD 0 0) != 9))] (by kernel_rfl) rfl ?_
   refine VL_bne (bs.getD 0 0) 9 (fun bV => [(0, .slice (some ⟨sb1, so1, none⟩) n c), (2, .pointer (some ⟨b1, 0, none⟩)), (5, .pointer (some ⟨b2, 0, none⟩)), (6, .int .i64 ((muS bs : Nat) : Int)), (59, .bool bV)]) rfl (fun hg1 => ?_) (fun hg1 => ?_)
   ·refine VL_pure 22 [0, 2, 5, 6, 54] [(0, .slice (some ⟨sb1, so1, none⟩) n c), (2, .pointer (some ⟨b1, 0, none⟩)), (5, .pointer (some ⟨b2, 0, none⟩)), (6, .int .i64 ((muS bs : Nat) : Int)), (54, .bool true)] (by kernel_rfl) rfl ?_
    refine VL_end (by kernel_rfl) ?_
    refine VQ_next ?_
    refine VC_true (by kernel_rfl) ?_
    refine VC_seq ?_
    refine VC_region ?_
    refine VL_pure 1 [2, 76] [(2, .pointer (some ⟨b1, 0, none⟩)), (76, .agg #[.int .i64 0, .bool false, .int .i64 0, .slice none 0 0])] (by kernel_rfl) rfl ?_
    refine VL_store (b := b1) (o := 0) (vs := [.int .i64 0, .bool false, .int .i64 0, .slice none 0 0]) (by kernel_rfl) (by kernel_rfl) ho1 (Nat.le_of_ble_eq_true (by kernel_rfl)) ?_
    intro w15 hw4
    replace hS := Step.transNew hS hw4.step (fun _ _ _ => by omega)
    replace hA := hA.keepB hw4.step (show ¬ sb1 = b1 by omega)
    replace ho5 := ho5.step hw4.step (show ¬ b2 = b1 by omega)
    have ho6 : Own w15 b1 #[.int .i64 0, .bool false, .int .i64 0, .slice none 0 0] 24 := Own.cast hw4.own (by kernel_rfl)
    have hzhw4 := hw4.same
    refine VL_pure 3 [2, 3] [(2, .pointer (some ⟨b1, 0, none⟩)), (3, .int .i64 5)] (by kernel_rfl) rfl ?_
    refine VL_end (by kernel_rfl) ?_
    refine VQ_next ?_
    refine VC_ret ?_
    refine VQ_block_ret ?_
    refine VQ_then_ret ?_
    refine VQ_retC1T1 (T := 24) (.agg #[.int .i64 0, .bool false, .int .i64 0, .slice none 0 0]) (.int .i64 5) (.inr rfl) rfl rfl rfl (Loads.ownL ho6 (n := 4) (by kernel_rfl) (by kernel_rfl) (by kernel_rfl)) ?_
    exact MuR.no (by exact mu_5 (by omega) (by omega) (fun ⟨a, b, c, d⟩ => by omega)) (by decide) hS
   ·refine VL_pure 6 [0, 2, 5, 6, 59, 60] [(0, .slice (some ⟨sb1, so1, none⟩) n c), (2, .pointer (some ⟨b1, 0, none⟩)), (5, .pointer (some ⟨b2, 0, none⟩)), (6, .int .i64 ((muS bs : Nat) : Int)), (59, .bool false), (60, .slice (some ⟨sb1, so1, none⟩) n c)] (by kernel_rfl) rfl ?_
    refine VL_index (d := 61) (b := sb1) (o := so1) (len := n) (sz := 1) (m := 1) (by kernel_rfl) (by kernel_rfl) 1 (by rfl) (by omega) (so1 + 1) (by omega) ?_
    refine VL_load (d := 62) (t := 5) (a := ⟨sb1, so1 + 1, none⟩) (v := .int .u8 (bs.getD 1 0)) (by kernel_rfl) (by kernel_rfl) (Sl.ldI hA (by kernel_rfl) 1 (by (try simp only [List.length_set, List.length_append, List.length_map, List.length_replicate, List.length_cons, List.length_nil, List.length_take, List.length_drop, List.length_range]) <;> omega)) ?_
    refine VL_pure 11 [0, 2, 5, 6, 65] [(0, .slice (some ⟨sb1, so1, none⟩) n c), (2, .pointer (some ⟨b1, 0, none⟩)), (5, .pointer (some ⟨b2, 0, none⟩)), (6, .int .i64 ((muS bs : Nat) : Int)), (65, .bool ((bs.getD 1 0) != 3))] (by kernel_rfl) rfl ?_
    refine VL_bne (bs.getD 1 0) 3 (fun bV => [(0, .slice (some ⟨sb1, so1, none⟩) n c), (2, .pointer (some ⟨b1, 0, none⟩)), (5, .pointer (some ⟨b2, 0, none⟩)), (6, .int .i64 ((muS bs : Nat) : Int)), (65, .bool bV)]) rfl (fun hg2 => ?_) (fun hg2 => ?_)
    ·refine VL_pure 22 [0, 2, 5, 6, 54] [(0, .slice (some ⟨sb1, so1, none⟩) n c), (2, .pointer (some ⟨b1, 0, none⟩)), (5, .pointer (some ⟨b2, 0, none⟩)), (6, .int .i64 ((muS bs : Nat) : Int)), (54, .bool true)] (by kernel_rfl) rfl ?_
     refine VL_end (by kernel_rfl) ?_
     refine VQ_next ?_
     refine VC_true (by kernel_rfl) ?_
     refine VC_seq ?_
     refine VC_region ?_
     refine VL_pure 1 [2, 76] [(2, .pointer (some ⟨b1, 0, none⟩)), (76, .agg #[.int .i64 0, .bool false, .int .i64 0, .slice none 0 0])] (by kernel_rfl) rfl ?_
     refine VL_store (b := b1) (o := 0) (vs := [.int .i64 0, .bool false, .int .i64 0, .slice none 0 0]) (by kernel_rfl) (by kernel_rfl) ho1 (Nat.le_of_ble_eq_true (by kernel_rfl)) ?_
     intro w16 hw5
     replace hS := Step.transNew hS hw5.step (fun _ _ _ => by omega)
     replace hA := hA.keepB hw5.step (show ¬ sb1 = b1 by omega)
     replace ho5 := ho5.step hw5.step (show ¬ b2 = b1 by omega)
     have ho7 : Own w16 b1 #[.int .i64 0, .bool false, .int .i64 0, .slice none 0 0] 24 := Own.cast hw5.own (by kernel_rfl)
     have hzhw5 := hw5.same
     refine VL_pure 3 [2, 3] [(2, .pointer (some ⟨b1, 0, none⟩)), (3, .int .i64 5)] (by kernel_rfl) rfl ?_
     refine VL_end (by kernel_rfl) ?_
     refine VQ_next ?_
     refine VC_ret ?_
     refine VQ_block_ret ?_
     refine VQ_then_ret ?_
     refine VQ_retC1T1 (T := 24) (.agg #[.int .i64 0, .bool false, .int .i64 0, .slice none 0 0]) (.int .i64 5) (.inr rfl) rfl rfl rfl (Loads.ownL ho7 (n := 4) (by kernel_rfl) (by kernel_rfl) (by kernel_rfl)) ?_
     exact MuR.no (by exact mu_5 (by omega) (by omega) (fun ⟨a, b, c, d⟩ => by omega)) (by decide) hS
    ·refine VL_pure 12 [0, 2, 5, 6, 65, 66] [(0, .slice (some ⟨sb1, so1, none⟩) n c), (2, .pointer (some ⟨b1, 0, none⟩)), (5, .pointer (some ⟨b2, 0, none⟩)), (6, .int .i64 ((muS bs : Nat) : Int)), (65, .bool false), (66, .slice (some ⟨sb1, so1, none⟩) n c)] (by kernel_rfl) rfl ?_
     refine VL_index (d := 67) (b := sb1) (o := so1) (len := n) (sz := 1) (m := 6) (by kernel_rfl) (by kernel_rfl) 6 (by rfl) (by omega) (so1 + 6) (by omega) ?_
     refine VL_load (d := 68) (t := 5) (a := ⟨sb1, so1 + 6, none⟩) (v := .int .u8 (bs.getD 6 0)) (by kernel_rfl) (by kernel_rfl) (Sl.ldI hA (by kernel_rfl) 6 (by (try simp only [List.length_set, List.length_append, List.length_map, List.length_replicate, List.length_cons, List.length_nil, List.length_take, List.length_drop, List.length_range]) <;> omega)) ?_
     refine VL_pure 17 [0, 2, 5, 6, 71] [(0, .slice (some ⟨sb1, so1, none⟩) n c), (2, .pointer (some ⟨b1, 0, none⟩)), (5, .pointer (some ⟨b2, 0, none⟩)), (6, .int .i64 ((muS bs : Nat) : Int)), (71, .bool ((bs.getD 6 0) != 128))] (by kernel_rfl) rfl ?_
     refine VL_bne (bs.getD 6 0) 128 (fun bV => [(0, .slice (some ⟨sb1, so1, none⟩) n c), (2, .pointer (some ⟨b1, 0, none⟩)), (5, .pointer (some ⟨b2, 0, none⟩)), (6, .int .i64 ((muS bs : Nat) : Int)), (71, .bool bV)]) rfl (fun hg3 => ?_) (fun hg3 => ?_)
     ·refine VL_pure 22 [0, 2, 5, 6, 54] [(0, .slice (some ⟨sb1, so1, none⟩) n c), (2, .pointer (some ⟨b1, 0, none⟩)), (5, .pointer (some ⟨b2, 0, none⟩)), (6, .int .i64 ((muS bs : Nat) : Int)), (54, .bool true)] (by kernel_rfl) rfl ?_
      refine VL_end (by kernel_rfl) ?_
      refine VQ_next ?_
      refine VC_true (by kernel_rfl) ?_
      refine VC_seq ?_
      refine VC_region ?_
      refine VL_pure 1 [2, 76] [(2, .pointer (some ⟨b1, 0, none⟩)), (76, .agg #[.int .i64 0, .bool false, .int .i64 0, .slice none 0 0])] (by kernel_rfl) rfl ?_
      refine VL_store (b := b1) (o := 0) (vs := [.int .i64 0, .bool false, .int .i64 0, .slice none 0 0]) (by kernel_rfl) (by kernel_rfl) ho1 (Nat.le_of_ble_eq_true (by kernel_rfl)) ?_
      intro w17 hw6
      replace hS := Step.transNew hS hw6.step (fun _ _ _ => by omega)
      replace hA := hA.keepB hw6.step (show ¬ sb1 = b1 by omega)
      replace ho5 := ho5.step hw6.step (show ¬ b2 = b1 by omega)
      have ho8 : Own w17 b1 #[.int .i64 0, .bool false, .int .i64 0, .slice none 0 0] 24 := Own.cast hw6.own (by kernel_rfl)
      have hzhw6 := hw6.same
      refine VL_pure 3 [2, 3] [(2, .pointer (some ⟨b1, 0, none⟩)), (3, .int .i64 5)] (by kernel_rfl) rfl ?_
      refine VL_end (by kernel_rfl) ?_
      refine VQ_next ?_
      refine VC_ret ?_
      refine VQ_block_ret ?_
      refine VQ_then_ret ?_
      refine VQ_retC1T1 (T := 24) (.agg #[.int .i64 0, .bool false, .int .i64 0, .slice none 0 0]) (.int .i64 5) (.inr rfl) rfl rfl rfl (Loads.ownL ho8 (n := 4) (by kernel_rfl) (by kernel_rfl) (by kernel_rfl)) ?_
      exact MuR.no (by exact mu_5 (by omega) (by omega) (fun ⟨a, b, c, d⟩ => by omega)) (by decide) hS
     ·refine VL_pure 18 [0, 2, 5, 6, 71, 72] [(0, .slice (some ⟨sb1, so1, none⟩) n c), (2, .pointer (some ⟨b1, 0, none⟩)), (5, .pointer (some ⟨b2, 0, none⟩)), (6, .int .i64 ((muS bs : Nat) : Int)), (71, .bool false), (72, .pointer (some ⟨b2, 0, none⟩))] (by kernel_rfl) rfl ?_
      refine VL_load (d := 73) (t := 3) (a := ⟨b2, 0, none⟩) (v := .int .i64 ((muN bs % 8388608 : Nat) : Int)) (by kernel_rfl) (by kernel_rfl) (Loads.own1 ho5 (by kernel_rfl) (by rfl)) ?_
      refine VL_pure 22 [0, 2, 5, 6, 54] [(0, .slice (some ⟨sb1, so1, none⟩) n c), (2, .pointer (some ⟨b1, 0, none⟩)), (5, .pointer (some ⟨b2, 0, none⟩)), (6, .int .i64 ((muS bs : Nat) : Int)), (54, .bool (((muN bs % 8388608 : Nat) : Int) == 0))] (by kernel_rfl) rfl ?_
      refine VL_end (by kernel_rfl) ?_
      refine VQ_next ?_
      refine VC_eq ((muN bs % 8388608 : Nat) : Int) 0 (by kernel_rfl) (fun h3 => ?_) (fun h3 => ?_)
      ·refine VC_seq ?_
       refine VC_region ?_
       refine VL_pure 1 [2, 76] [(2, .pointer (some ⟨b1, 0, none⟩)), (76, .agg #[.int .i64 0, .bool false, .int .i64 0, .slice none 0 0])] (by kernel_rfl) rfl ?_
       refine VL_store (b := b1) (o := 0) (vs := [.int .i64 0, .bool false, .int .i64 0, .slice none 0 0]) (by kernel_rfl) (by kernel_rfl) ho1 (Nat.le_of_ble_eq_true (by kernel_rfl)) ?_
       intro w18 hw7
       replace hS := Step.transNew hS hw7.step (fun _ _ _ => by omega)
       replace hA := hA.keepB hw7.step (show ¬ sb1 = b1 by omega)
       replace ho5 := ho5.step hw7.step (show ¬ b2 = b1 by omega)
       have ho9 : Own w18 b1 #[.int .i64 0, .bool false, .int .i64 0, .slice none 0 0] 24 := Own.cast hw7.own (by kernel_rfl)
       have hzhw7 := hw7.same
       refine VL_pure 3 [2, 3] [(2, .pointer (some ⟨b1, 0, none⟩)), (3, .int .i64 5)] (by kernel_rfl) rfl ?_
       refine VL_end (by kernel_rfl) ?_
       refine VQ_next ?_
       refine VC_ret ?_
       refine VQ_block_ret ?_
       refine VQ_then_ret ?_
       refine VQ_retC1T1 (T := 24) (.agg #[.int .i64 0, .bool false, .int .i64 0, .slice none 0 0]) (.int .i64 5) (.inr rfl) rfl rfl rfl (Loads.ownL ho9 (n := 4) (by kernel_rfl) (by kernel_rfl) (by kernel_rfl)) ?_
       exact MuR.no (by exact mu_5 (by omega) (by omega) (fun ⟨a, b, c, d⟩ => by omega)) (by decide) hS
      ·refine VC_seq ?_
       refine VC_region ?_
       refine VL_pure 1 [0, 2, 5, 6, 78] [(0, .slice (some ⟨sb1, so1, none⟩) n c), (2, .pointer (some ⟨b1, 0, none⟩)), (5, .pointer (some ⟨b2, 0, none⟩)), (6, .int .i64 ((muS bs : Nat) : Int)), (78, .pointer (some ⟨b2, 2, none⟩))] (by kernel_rfl) rfl ?_
       refine VL_load (d := 79) (t := 3) (a := ⟨b2, 2, none⟩) (v := .int .i64 (bs.getD 5 0)) (by kernel_rfl) (by kernel_rfl) (Loads.own1 ho5 (by kernel_rfl) (by rfl)) ?_
       have hzs5 := hS.size
       have hzl5 := ho1.lt
       have hzl6 := ho5.lt
       refine VL_call (d := 80) (f := 30) (args := #[.int .i64 (bs.getD 5 0)]) (by kernel_rfl) (by kernel_rfl) (by kernel_rfl) Try.call30 (known_any (bs.getD 5 0) _) ?_
       rintro _ w19 ⟨rfl, hc1⟩
       replace hS := Step.trans hS hc1
       replace hA := hA.no hc1
       replace ho1 := ho1.no hc1
       replace ho5 := ho5.no hc1
       refine VL_pure 5 [0, 2, 5, 6, 77] [(0, .slice (some ⟨sb1, so1, none⟩) n c), (2, .pointer (some ⟨b1, 0, none⟩)), (5, .pointer (some ⟨b2, 0, none⟩)), (6, .int .i64 ((muS bs : Nat) : Int)), (77, .bool (!(knownB (bs.getD 5 0))))] (by kernel_rfl) rfl ?_
       refine VL_end (by kernel_rfl) ?_
       refine VQ_next ?_
       refine VC_cond (!(knownB (bs.getD 5 0))) (by kernel_rfl) (fun h4 => ?_) (fun h4 => ?_)
       ·try simp only [Bool.and_eq_true, Bool.or_eq_true, decide_eq_true_eq, Bool.not_eq_true', decide_eq_false_iff_not, Bool.and_eq_false_iff, Bool.or_eq_false_iff, beq_iff_eq, bne_iff_ne, beq_eq_false_iff_ne, bne_eq_false_iff_eq, Bool.not_eq_eq_eq_not, Bool.not_true, Bool.not_false] at h4
        refine VC_seq ?_
        refine VC_region ?_
        refine VL_pure 1 [2, 82] [(2, .pointer (some ⟨b1, 0, none⟩)), (82, .agg #[.int .i64 0, .bool false, .int .i64 0, .slice none 0 0])] (by kernel_rfl) rfl ?_
        refine VL_store (b := b1) (o := 0) (vs := [.int .i64 0, .bool false, .int .i64 0, .slice none 0 0]) (by kernel_rfl) (by kernel_rfl) ho1 (Nat.le_of_ble_eq_true (by kernel_rfl)) ?_
        intro w20 hw8
        replace hS := Step.transNew hS hw8.step (fun _ _ _ => by omega)
        replace hA := hA.keepB hw8.step (show ¬ sb1 = b1 by omega)
        replace ho5 := ho5.step hw8.step (show ¬ b2 = b1 by omega)
        have ho10 : Own w20 b1 #[.int .i64 0, .bool false, .int .i64 0, .slice none 0 0] 24 := Own.cast hw8.own (by kernel_rfl)
        have hzhw8 := hw8.same
        refine VL_pure 3 [2, 3] [(2, .pointer (some ⟨b1, 0, none⟩)), (3, .int .i64 12)] (by kernel_rfl) rfl ?_
        refine VL_end (by kernel_rfl) ?_
        refine VQ_next ?_
        refine VC_ret ?_
        refine VQ_block_ret ?_
        refine VQ_then_ret ?_
        refine VQ_retC1T1 (T := 24) (.agg #[.int .i64 0, .bool false, .int .i64 0, .slice none 0 0]) (.int .i64 12) (.inr rfl) rfl rfl rfl (Loads.ownL ho10 (n := 4) (by kernel_rfl) (by kernel_rfl) (by kernel_rfl)) ?_
        exact MuR.no (by exact mu_12 (by omega) (by omega) ⟨by omega, by omega, by omega, by omega⟩ (by assumption)) (by decide) hS
       ·try simp only [Bool.and_eq_true, Bool.or_eq_true, decide_eq_true_eq, Bool.not_eq_true', decide_eq_false_iff_not, Bool.and_eq_false_iff, Bool.or_eq_false_iff, beq_iff_eq, bne_iff_ne, beq_eq_false_iff_ne, bne_eq_false_iff_eq, Bool.not_eq_eq_eq_not, Bool.not_true, Bool.not_false] at h4
        refine VC_seq ?_
        refine VC_region ?_
        refine VL_pure 3 [0, 2, 5, 6, 86] [(0, .slice (some ⟨sb1, so1, none⟩) n c), (2, .pointer (some ⟨b1, 0, none⟩)), (5, .pointer (some ⟨b2, 0, none⟩)), (6, .int .i64 ((muS bs : Nat) : Int)), (86, .int .i64 (IntKind.wrap .i64 (((n : Nat) : Int) - 9)))] (by kernel_rfl) rfl ?_
        have he1 : IntKind.wrap .i64 (((n : Nat) : Int) - 9) = ((n - 9 : Nat) : Int) := (by rw [wrap_i64 _ (by omega) (by omega)]; omega)
        refine VL_eq [(0, .slice (some ⟨sb1, so1, none⟩) n c), (2, .pointer (some ⟨b1, 0, none⟩)), (5, .pointer (some ⟨b2, 0, none⟩)), (6, .int .i64 ((muS bs : Nat) : Int)), (86, .int .i64 ((n - 9 : Nat) : Int))] (by rw [he1]) ?_
        refine VL_pure 6 [0, 2, 5, 6, 83] [(0, .slice (some ⟨sb1, so1, none⟩) n c), (2, .pointer (some ⟨b1, 0, none⟩)), (5, .pointer (some ⟨b2, 0, none⟩)), (6, .int .i64 ((muS bs : Nat) : Int)), (83, .bool (decide (((n - 9 : Nat) : Int) < ((muS bs : Nat) : Int))))] (by kernel_rfl) rfl ?_
        refine VL_end (by kernel_rfl) ?_
        refine VQ_next ?_
        refine VC_dec (((n - 9 : Nat) : Int) < ((muS bs : Nat) : Int)) (by kernel_rfl) (fun h5 => ?_) (fun h5 => ?_)
        ·refine VC_seq ?_
         refine VC_region ?_
         refine VL_pure 1 [2, 89] [(2, .pointer (some ⟨b1, 0, none⟩)), (89, .agg #[.int .i64 0, .bool false, .int .i64 0, .slice none 0 0])] (by kernel_rfl) rfl ?_
         refine VL_store (b := b1) (o := 0) (vs := [.int .i64 0, .bool false, .int .i64 0, .slice none 0 0]) (by kernel_rfl) (by kernel_rfl) ho1 (Nat.le_of_ble_eq_true (by kernel_rfl)) ?_
         intro w21 hw9
         replace hS := Step.transNew hS hw9.step (fun _ _ _ => by omega)
         replace hA := hA.keepB hw9.step (show ¬ sb1 = b1 by omega)
         replace ho5 := ho5.step hw9.step (show ¬ b2 = b1 by omega)
         have ho11 : Own w21 b1 #[.int .i64 0, .bool false, .int .i64 0, .slice none 0 0] 24 := Own.cast hw9.own (by kernel_rfl)
         have hzhw9 := hw9.same
         refine VL_pure 3 [2, 3] [(2, .pointer (some ⟨b1, 0, none⟩)), (3, .int .i64 2)] (by kernel_rfl) rfl ?_
         refine VL_end (by kernel_rfl) ?_
         refine VQ_next ?_
         refine VC_ret ?_
         refine VQ_block_ret ?_
         refine VQ_then_ret ?_
         refine VQ_retC1T1 (T := 24) (.agg #[.int .i64 0, .bool false, .int .i64 0, .slice none 0 0]) (.int .i64 2) (.inr rfl) rfl rfl rfl (Loads.ownL ho11 (n := 4) (by kernel_rfl) (by kernel_rfl) (by kernel_rfl)) ?_
         exact MuR.no (by first | exact mu_2 (by omega) (by omega) | exact mu_2b (by omega) (by omega) ⟨by omega, by omega, by omega, by omega⟩ (by assumption) (by omega)) (by decide) hS
        ·refine VC_seq ?_
         refine VC_region ?_
         refine VL_pure 3 [0, 2, 5, 6, 93] [(0, .slice (some ⟨sb1, so1, none⟩) n c), (2, .pointer (some ⟨b1, 0, none⟩)), (5, .pointer (some ⟨b2, 0, none⟩)), (6, .int .i64 ((muS bs : Nat) : Int)), (93, .int .i64 (IntKind.wrap .i64 (((n : Nat) : Int) - 9)))] (by kernel_rfl) rfl ?_
         have he2 : IntKind.wrap .i64 (((n : Nat) : Int) - 9) = ((n - 9 : Nat) : Int) := (by rw [wrap_i64 _ (by omega) (by omega)]; omega)
         refine VL_eq [(0, .slice (some ⟨sb1, so1, none⟩) n c), (2, .pointer (some ⟨b1, 0, none⟩)), (5, .pointer (some ⟨b2, 0, none⟩)), (6, .int .i64 ((muS bs : Nat) : Int)), (93, .int .i64 ((n - 9 : Nat) : Int))] (by rw [he2]) ?_
         refine VL_pure 6 [0, 2, 5, 90] [(0, .slice (some ⟨sb1, so1, none⟩) n c), (2, .pointer (some ⟨b1, 0, none⟩)), (5, .pointer (some ⟨b2, 0, none⟩)), (90, .bool (decide (((n - 9 : Nat) : Int) > ((muS bs : Nat) : Int))))] (by kernel_rfl) rfl ?_
         refine VL_end (by kernel_rfl) ?_
         refine VQ_next ?_
         refine VC_dec (((n - 9 : Nat) : Int) > ((muS bs : Nat) : Int)) (by kernel_rfl) (fun h6 => ?_) (fun h6 => ?_)
         ·refine VC_seq ?_
          refine VC_region ?_
          refine VL_pure 1 [2, 96] [(2, .pointer (some ⟨b1, 0, none⟩)), (96, .agg #[.int .i64 0, .bool false, .int .i64 0, .slice none 0 0])] (by kernel_rfl) rfl ?_
          refine VL_store (b := b1) (o := 0) (vs := [.int .i64 0, .bool false, .int .i64 0, .slice none 0 0]) (by kernel_rfl) (by kernel_rfl) ho1 (Nat.le_of_ble_eq_true (by kernel_rfl)) ?_
          intro w22 hw10
          replace hS := Step.transNew hS hw10.step (fun _ _ _ => by omega)
          replace hA := hA.keepB hw10.step (show ¬ sb1 = b1 by omega)
          replace ho5 := ho5.step hw10.step (show ¬ b2 = b1 by omega)
          have ho12 : Own w22 b1 #[.int .i64 0, .bool false, .int .i64 0, .slice none 0 0] 24 := Own.cast hw10.own (by kernel_rfl)
          have hzhw10 := hw10.same
          refine VL_pure 3 [2, 3] [(2, .pointer (some ⟨b1, 0, none⟩)), (3, .int .i64 3)] (by kernel_rfl) rfl ?_
          refine VL_end (by kernel_rfl) ?_
          refine VQ_next ?_
          refine VC_ret ?_
          refine VQ_block_ret ?_
          refine VQ_then_ret ?_
          refine VQ_retC1T1 (T := 24) (.agg #[.int .i64 0, .bool false, .int .i64 0, .slice none 0 0]) (.int .i64 3) (.inr rfl) rfl rfl rfl (Loads.ownL ho12 (n := 4) (by kernel_rfl) (by kernel_rfl) (by kernel_rfl)) ?_
          exact MuR.no (by exact mu_3 (by omega) (by omega) ⟨by omega, by omega, by omega, by omega⟩ (by assumption) (by omega)) (by decide) hS
         ·refine VC_skip ?_
          refine VQ_block_normal ?_
          refine VQ_next ?_
          refine VC_seq ?_
          refine VC_region ?_
          refine VL_pure 1 [2, 5, 98] [(2, .pointer (some ⟨b1, 0, none⟩)), (5, .pointer (some ⟨b2, 0, none⟩)), (98, .slice (some ⟨sb1, so1, none⟩) n c)] (by kernel_rfl) rfl ?_
          obtain ⟨so2, hso2⟩ : ∃ x, (if c = 9 then so1 else so1 + 9 * 1) = x := ⟨_, rfl⟩
          refine VL_slice (d := 99) (b := sb1) (o := so1) (sz := 1) (len := n) (cap := c) (lo := (some 9)) (hi := none) (mx := none) (by kernel_rfl) (by kernel_rfl) (fun h => by first | exact absurd rfl h | exact (fun h => by cases h)) 9 n c rfl rfl rfl (by omega) (by omega) (by omega) so2 hso2 (n - 9) (by omega) (c - 9) (by omega) ?_
          try (have so2q := hso2; rw [if_neg (by omega)] at so2q)
          have hsl1 := Sl.cutI (H := n) hA hso2 (by omega)
          replace hsl1 := Sl.cast hsl1 (congrArg (iL .u8) (List.take_of_length_le (by rw [List.length_drop]; omega)))
          have hzs6 := hS.size
          have hzl7 := ho1.lt
          have hzl8 := ho5.lt
          refine VL_call (d := 100) (f := 31) (by kernel_rfl) (by kernel_rfl) (by kernel_rfl) Try.call31 (ieunp_any (some ⟨sb1, so2, none⟩) (n - 9) (c - 9) _ (bs.drop 9) _ (by rw [List.length_drop]; omega) hsl1 (by omega) (hb.drop _) (by omega) (by first | exact Nat.le_refl _ | omega)) ?_
          rintro _ w23 ⟨Ai1, ci1, li1, rfl, hv1, hI1, hc2⟩
          replace hS := Step.trans hS hc2
          replace hA := hA.no hc2
          replace ho1 := ho1.no hc2
          replace ho5 := ho5.no hc2
          replace hsl1 := hsl1.no hc2
          have hleli1 : w23.heap.size ≤ w23.heap.size := Nat.le_refl _
          have hV1 := Ier.ies hI1
          have hcntli1 : li1.length ≤ 16 := by have hq9 := ieU_count (bs.drop 9) [] (by simp); rw [← vals_len, hv1]; exact hq9
          have hcali1 : li1.length ≤ ci1 := RwS.cap hI1.row
          have hibli1 : ∀ x ∈ li1, IeB x := un_ieb hv1 (hb.drop _)
          have hsmli1 : ∀ x ∈ li1, x.n ≤ 200 := un_small hV1 hv1 (hb.drop _)
          refine VL_pure 8 [2, 5, 7, 8] [(2, .pointer (some ⟨b1, 0, none⟩)), (5, .pointer (some ⟨b2, 0, none⟩)), (7, .slice Ai1 li1.length ci1), (8, .int .i64 (ieUE (bs.drop 9)))] (by kernel_rfl) rfl ?_
          refine VL_end (by kernel_rfl) ?_
          refine VQ_next ?_
          refine VC_seq ?_
          refine VC_seq ?_
          refine VC_region ?_
          refine VL_pure 2 [2, 5, 7, 8, 104] [(2, .pointer (some ⟨b1, 0, none⟩)), (5, .pointer (some ⟨b2, 0, none⟩)), (7, .slice Ai1 li1.length ci1), (8, .int .i64 (ieUE (bs.drop 9))), (104, .bool ((ieUE (bs.drop 9)) != 0))] (by kernel_rfl) rfl ?_
          refine VL_end (by kernel_rfl) ?_
          refine VQ_next ?_
          refine VC_ne (ieUE (bs.drop 9)) 0 (by kernel_rfl) (fun h7 => ?_) (fun h7 => ?_)
          ·refine VC_seq ?_
           refine VC_region ?_
           refine VL_pure 2 [2, 105, 106] [(2, .pointer (some ⟨b1, 0, none⟩)), (105, .agg #[.int .i64 0, .bool false, .int .i64 0, .slice none 0 0]), (106, .int .i64 (ieUE (bs.drop 9)))] (by kernel_rfl) rfl ?_
           refine VL_store (b := b1) (o := 0) (vs := [.int .i64 0, .bool false, .int .i64 0, .slice none 0 0]) (by kernel_rfl) (by kernel_rfl) ho1 (Nat.le_of_ble_eq_true (by kernel_rfl)) ?_
           intro w24 hw11
           replace hS := Step.transNew hS hw11.step (fun _ _ _ => by omega)
           replace hA := hA.keepB hw11.step (show ¬ sb1 = b1 by omega)
           replace ho5 := ho5.step hw11.step (show ¬ b2 = b1 by omega)
           replace hsl1 := hsl1.keepB hw11.step (show ¬ sb1 = b1 by omega)
           replace hV1 := hV1.step hw11.step (fun k hk1 hk2 (hF : k = b1) => by omega)
           replace hleli1 := Nat.le_trans hleli1 (hw11.step).size
           replace hI1 := hI1.keepT ho1 (by decide) (by decide) hw11.step
           have ho13 : Own w24 b1 #[.int .i64 0, .bool false, .int .i64 0, .slice none 0 0] 24 := Own.cast hw11.own (by kernel_rfl)
           have hzhw11 := hw11.same
           refine VL_pure 4 [2, 3] [(2, .pointer (some ⟨b1, 0, none⟩)), (3, .int .i64 (ieUE (bs.drop 9)))] (by kernel_rfl) rfl ?_
           refine VL_end (by kernel_rfl) ?_
           refine VQ_next ?_
           refine VC_ret ?_
           refine VQ_then_ret ?_
           refine VQ_retC1T1 (T := 24) (.agg #[.int .i64 0, .bool false, .int .i64 0, .slice none 0 0]) (.int .i64 (ieUE (bs.drop 9))) (.inr rfl) rfl rfl rfl (Loads.ownL ho13 (n := 4) (by kernel_rfl) (by kernel_rfl) (by kernel_rfl)) ?_
           exact MuR.no (mu_i (by omega) (by omega) ⟨by omega, by omega, by omega, by omega⟩ (by assumption) (by omega)) (by assumption) hS
          ·refine VC_skip ?_
           refine VQ_next ?_
           refine VC_seq ?_
           refine VC_region ?_
           refine VL_pure 2 [2, 5, 107, 108] [(2, .pointer (some ⟨b1, 0, none⟩)), (5, .pointer (some ⟨b2, 0, none⟩)), (107, .slice Ai1 li1.length ci1), (108, .pointer (some ⟨b2, 3, none⟩))] (by kernel_rfl) rfl ?_
           refine VL_store (b := b2) (o := 3) (vs := [.slice Ai1 li1.length ci1]) (by kernel_rfl) (by kernel_rfl) ho5 (Nat.le_of_ble_eq_true (by kernel_rfl)) ?_
           intro w25 hw12
           replace hS := Step.transNew hS hw12.step (fun _ _ _ => by omega)
           replace hA := hA.keepB hw12.step (show ¬ sb1 = b2 by omega)
           replace ho1 := ho1.step hw12.step (show ¬ b1 = b2 by omega)
           replace hsl1 := hsl1.keepB hw12.step (show ¬ sb1 = b2 by omega)
           replace hV1 := hV1.step hw12.step (fun k hk1 hk2 (hF : k = b2) => by omega)
           replace hleli1 := Nat.le_trans hleli1 (hw12.step).size
           replace hI1 := hI1.keepT ho5 (by decide) (by decide) hw12.step
           have ho14 : Own w25 b2 #[.int .i64 ((muN bs % 8388608 : Nat) : Int), .bool (decide (((muN bs : Nat) : Int) > 8388607)), .int .i64 (bs.getD 5 0), .slice Ai1 li1.length ci1] 24 := Own.cast hw12.own (by kernel_rfl)
           have hzhw12 := hw12.same
           refine VL_end (by kernel_rfl) ?_
           refine VQ_next ?_
           refine VC_seq ?_
           refine VC_region ?_
           refine VL_load (d := 109) (t := 24) (a := ⟨b2, 0, none⟩) (v := .agg #[.int .i64 ((muN bs % 8388608 : Nat) : Int), .bool (decide (((muN bs : Nat) : Int) > 8388607)), .int .i64 (bs.getD 5 0), .slice Ai1 li1.length ci1]) (by kernel_rfl) (by kernel_rfl) (Loads.ownL ho14 (n := 4) (by kernel_rfl) (by kernel_rfl) (by kernel_rfl)) ?_
           refine VL_store (b := b1) (o := 0) (vs := [.int .i64 ((muN bs % 8388608 : Nat) : Int), .bool (decide (((muN bs : Nat) : Int) > 8388607)), .int .i64 (bs.getD 5 0), .slice Ai1 li1.length ci1]) (by kernel_rfl) (by kernel_rfl) ho1 (Nat.le_of_ble_eq_true (by kernel_rfl)) ?_
           intro w26 hw13
           replace hS := Step.transNew hS hw13.step (fun _ _ _ => by omega)
           replace hA := hA.keepB hw13.step (show ¬ sb1 = b1 by omega)
           replace hsl1 := hsl1.keepB hw13.step (show ¬ sb1 = b1 by omega)
           replace hV1 := hV1.step hw13.step (fun k hk1 hk2 (hF : k = b1) => by omega)
           replace hleli1 := Nat.le_trans hleli1 (hw13.step).size
           replace hI1 := hI1.keepT ho1 (by decide) (by decide) hw13.step
           replace ho14 := ho14.step hw13.step (show ¬ b2 = b1 by omega)
           have ho15 : Own w26 b1 #[.int .i64 ((muN bs % 8388608 : Nat) : Int), .bool (decide (((muN bs : Nat) : Int) > 8388607)), .int .i64 (bs.getD 5 0), .slice Ai1 li1.length ci1] 24 := Own.cast hw13.own (by kernel_rfl)
           have hzhw13 := hw13.same
           refine VL_pure 3 [2, 3] [(2, .pointer (some ⟨b1, 0, none⟩)), (3, .int .i64 0)] (by kernel_rfl) rfl ?_
           refine VL_end (by kernel_rfl) ?_
           refine VQ_next ?_
           refine VC_ret ?_
           refine VQ_retC1T1 (T := 24) (.agg #[.int .i64 ((muN bs % 8388608 : Nat) : Int), .bool (decide (((muN bs : Nat) : Int) > 8388607)), .int .i64 (bs.getD 5 0), .slice Ai1 li1.length ci1]) (.int .i64 0) (.inr rfl) rfl rfl rfl (Loads.ownL ho15 (n := 4) (by kernel_rfl) (by kernel_rfl) (by kernel_rfl)) ?_
           exact MuR.yes ((mu_i (by omega) (by omega) ⟨by omega, by omega, by omega, by omega⟩ (by assumption) (by omega)).trans (by first | assumption | exact Classical.not_not.1 (by assumption))) hv1 hI1 (by omega) hS

set_option maxRecDepth 100000 in
set_option maxHeartbeats 4000000 in
theorem same16_any (r : Int) (bk : Bool) (k r' : Int) (bk' : Bool) (k' : Int) (A : Option Addr) (n c lo hi : Nat) (l : List IeV) (w : World) (hn : l.length = n) (hA : Ies w lo hi A l) (A' : Option Addr) (n' c' lo' hi' : Nat) (l' : List IeV) (hn' : l'.length = n') (hA' : Ies w lo' hi' A' l') (hlen : n ≤ 1000000) (hl1 : ∀ x ∈ l, x.n < 1000000) (hl2 : ∀ x ∈ l', x.n < 1000000) (hhi : hi ≤ w.heap.size) (hhi' : hi' ≤ w.heap.size) :
  CV Try.prog 16 #[.agg #[.int .i64 r, .bool bk, .int .i64 k, .slice A n c], .agg #[.int .i64 r', .bool bk', .int .i64 k', .slice A' n' c']] w (fun x w1 => x = .bool (sameM r bk k (vals l) r' bk' k' (vals l')) ∧ Step No w w1) := by
 have hS : Step No w w := Step.refl _ _
 refine CV_enter Try.f16 _ 31 [(0, .agg #[.int .i64 r, .bool bk, .int .i64 k, .slice A n c]), (1, .agg #[.int .i64 r', .bool bk', .int .i64 k', .slice A' n' c'])] Try.func16 rfl rfl (by kernel_rfl) rfl ?_
 refine VC_seq ?_
 refine VC_region ?_
 have hzs1 := hS.size
 refine VL_box (d := 2) (t := 24) (c := #[.int .i64 r, .bool bk, .int .i64 k, .slice A n c]) (by kernel_rfl) (by kernel_rfl) ?_
 intro b1 w1 hn1
 replace hS := Step.trans hS (hn1.step No)
 replace hA := hA.no (hn1.step No)
 replace hA' := hA'.no (hn1.step No)
 have ho1 := hn1.own
 have hzhn1 := hn1.size
 have hqhn1 := hn1.eqb
 have hzs2 := hS.size
 have hzl1 := ho1.lt
 refine VL_box (d := 3) (t := 24) (c := #[.int .i64 r', .bool bk', .int .i64 k', .slice A' n' c']) (by kernel_rfl) (by kernel_rfl) ?_
 intro b2 w2 hn2
 replace hS := Step.trans hS (hn2.step No)
 replace hA := hA.no (hn2.step No)
 replace hA' := hA'.no (hn2.step No)
 replace ho1 := ho1.no (hn2.step No)
 have ho2 := hn2.own
 have hzhn2 := hn2.size
 have hqhn2 := hn2.eqb
 refine VL_pure 3 [2, 3] [(2, .pointer (some ⟨b1, 0, none⟩)), (3, .pointer (some ⟨b2, 0, none⟩))] (by kernel_rfl) rfl ?_
 refine VL_end (by kernel_rfl) ?_
 refine VQ_next ?_
 refine VC_seq ?_
 refine VC_region ?_
 refine VL_pure 1 [2, 3, 5] [(2, .pointer (some ⟨b1, 0, none⟩)), (3, .pointer (some ⟨b2, 0, none⟩)), (5, .pointer (some ⟨b1, 0, none⟩))] (by kernel_rfl) rfl ?_
 refine VL_load (d := 6) (t := 3) (a := ⟨b1, 0, none⟩) (v := .int .i64 r) (by kernel_rfl) (by kernel_rfl) (Loads.own1 ho1 (by kernel_rfl) (by rfl)) ?_
 refine VL_pure 3 [2, 3, 6, 7] [(2, .pointer (some ⟨b1, 0, none⟩)), (3, .pointer (some ⟨b2, 0, none⟩)), (6, .int .i64 r), (7, .pointer (some ⟨b2, 0, none⟩))] (by kernel_rfl) rfl ?_
 refine VL_load (d := 8) (t := 3) (a := ⟨b2, 0, none⟩) (v := .int .i64 r') (by kernel_rfl) (by kernel_rfl) (Loads.own1 ho2 (by kernel_rfl) (by rfl)) ?_
 refine VL_pure 6 [2, 3, 10] [(2, .pointer (some ⟨b1, 0, none⟩)), (3, .pointer (some ⟨b2, 0, none⟩)), (10, .bool (r == r'))] (by kernel_rfl) rfl ?_
 refine VL_beq r r' (fun bV => [(2, .pointer (some ⟨b1, 0, none⟩)), (3, .pointer (some ⟨b2, 0, none⟩)), (10, .bool bV)]) rfl (fun hg1 => ?_) (fun hg1 => ?_)
 ·refine VL_pure 7 [2, 3, 10, 11] [(2, .pointer (some ⟨b1, 0, none⟩)), (3, .pointer (some ⟨b2, 0, none⟩)), (10, .bool true), (11, .pointer (some ⟨b1, 1, none⟩))] (by kernel_rfl) rfl ?_
  refine VL_load (d := 12) (t := 4) (a := ⟨b1, 1, none⟩) (v := .bool bk) (by kernel_rfl) (by kernel_rfl) (Loads.own1 ho1 (by kernel_rfl) (by rfl)) ?_
  refine VL_pure 9 [2, 3, 10, 12, 13] [(2, .pointer (some ⟨b1, 0, none⟩)), (3, .pointer (some ⟨b2, 0, none⟩)), (10, .bool true), (12, .bool bk), (13, .pointer (some ⟨b2, 1, none⟩))] (by kernel_rfl) rfl ?_
  refine VL_load (d := 14) (t := 4) (a := ⟨b2, 1, none⟩) (v := .bool bk') (by kernel_rfl) (by kernel_rfl) (Loads.own1 ho2 (by kernel_rfl) (by rfl)) ?_
  refine VL_pure 13 [2, 3, 17] [(2, .pointer (some ⟨b1, 0, none⟩)), (3, .pointer (some ⟨b2, 0, none⟩)), (17, .bool (bk == bk'))] (by kernel_rfl) rfl ?_
  refine VL_bool (bk == bk') (fun bV => [(2, .pointer (some ⟨b1, 0, none⟩)), (3, .pointer (some ⟨b2, 0, none⟩)), (17, .bool bV)]) rfl (fun hg2 => ?_) (fun hg2 => ?_)
  ·refine VL_pure 14 [2, 3, 17, 18] [(2, .pointer (some ⟨b1, 0, none⟩)), (3, .pointer (some ⟨b2, 0, none⟩)), (17, .bool true), (18, .pointer (some ⟨b1, 2, none⟩))] (by kernel_rfl) rfl ?_
   refine VL_load (d := 19) (t := 3) (a := ⟨b1, 2, none⟩) (v := .int .i64 k) (by kernel_rfl) (by kernel_rfl) (Loads.own1 ho1 (by kernel_rfl) (by rfl)) ?_
   refine VL_pure 16 [2, 3, 17, 19, 20] [(2, .pointer (some ⟨b1, 0, none⟩)), (3, .pointer (some ⟨b2, 0, none⟩)), (17, .bool true), (19, .int .i64 k), (20, .pointer (some ⟨b2, 2, none⟩))] (by kernel_rfl) rfl ?_
   refine VL_load (d := 21) (t := 3) (a := ⟨b2, 2, none⟩) (v := .int .i64 k') (by kernel_rfl) (by kernel_rfl) (Loads.own1 ho2 (by kernel_rfl) (by rfl)) ?_
   refine VL_pure 20 [2, 3, 24] [(2, .pointer (some ⟨b1, 0, none⟩)), (3, .pointer (some ⟨b2, 0, none⟩)), (24, .bool (k == k'))] (by kernel_rfl) rfl ?_
   refine VL_beq k k' (fun bV => [(2, .pointer (some ⟨b1, 0, none⟩)), (3, .pointer (some ⟨b2, 0, none⟩)), (24, .bool bV)]) rfl (fun hg3 => ?_) (fun hg3 => ?_)
   ·refine VL_pure 21 [3, 24, 25] [(3, .pointer (some ⟨b2, 0, none⟩)), (24, .bool true), (25, .pointer (some ⟨b1, 3, none⟩))] (by kernel_rfl) rfl ?_
    refine VL_load (d := 26) (t := 22) (a := ⟨b1, 3, none⟩) (v := .slice A n c) (by kernel_rfl) (by kernel_rfl) (Loads.own1 ho1 (by kernel_rfl) (by rfl)) ?_
    refine VL_pure 23 [24, 26, 27] [(24, .bool true), (26, .slice A n c), (27, .pointer (some ⟨b2, 3, none⟩))] (by kernel_rfl) rfl ?_
    refine VL_load (d := 28) (t := 22) (a := ⟨b2, 3, none⟩) (v := .slice A' n' c') (by kernel_rfl) (by kernel_rfl) (Loads.own1 ho2 (by kernel_rfl) (by rfl)) ?_
    have hzs3 := hS.size
    have hzl2 := ho1.lt
    have hzl3 := ho2.lt
    refine VL_call (d := 29) (f := 34) (args := #[.slice A n c, .slice A' n' c']) (by kernel_rfl) (by kernel_rfl) (by kernel_rfl) Try.call34 (same15_any A n c lo hi l _ hn hA A' n' c' lo' hi' l' hn' hA'   (by omega) hl1 hl2 (by first | exact Nat.le_refl _ | omega) (by first | exact Nat.le_refl _ | omega)) ?_
    rintro _ w3 ⟨rfl, hc1⟩
    replace hS := Step.trans hS hc1
    replace hA := hA.no hc1
    replace hA' := hA'.no hc1
    replace ho1 := ho1.no hc1
    replace ho2 := ho2.no hc1
    refine VL_pure 27 [4] [(4, .bool (vals l == vals l'))] (by kernel_rfl) rfl ?_
    refine VL_end (by kernel_rfl) ?_
    refine VQ_next ?_
    refine VC_ret ?_
    refine VQ_ret1 (.bool (vals l == vals l')) (.inr rfl) rfl rfl ?_
    exact ⟨congrArg Value.bool (by simp [sameM, *]), hS⟩
   ·refine VL_pure 27 [4] [(4, .bool false)] (by kernel_rfl) rfl ?_
    refine VL_end (by kernel_rfl) ?_
    refine VQ_next ?_
    refine VC_ret ?_
    refine VQ_ret1 (.bool false) (.inr rfl) rfl rfl ?_
    exact ⟨congrArg Value.bool (by simp [sameM, *]), hS⟩
  ·refine VL_pure 27 [4] [(4, .bool false)] (by kernel_rfl) rfl ?_
   refine VL_end (by kernel_rfl) ?_
   refine VQ_next ?_
   refine VC_ret ?_
   refine VQ_ret1 (.bool false) (.inr rfl) rfl rfl ?_
   exact ⟨congrArg Value.bool (by simp [sameM, *]), hS⟩
 ·refine VL_pure 27 [4] [(4, .bool false)] (by kernel_rfl) rfl ?_
  refine VL_end (by kernel_rfl) ?_
  refine VQ_next ?_
  refine VC_ret ?_
  refine VQ_ret1 (.bool false) (.inr rfl) rfl rfl ?_
  exact ⟨congrArg Value.bool (by simp [sameM, *]), hS⟩

set_option maxRecDepth 100000 in
set_option maxHeartbeats 4000000 in
theorem few16_any (r : Int) (bk : Bool) (k : Int) (A : Option Addr) (n c lo hi : Nat) (l : List IeV) (w : World) (hn : l.length = n) (hA : Ies w lo hi A l) (hlen : n ≤ 9223372036854775807) :
  CV Try.prog 10 #[.agg #[.int .i64 r, .bool bk, .int .i64 k, .slice A n c]] w (fun x w1 => x = .bool (fewB l) ∧ Step No w w1) := by
 have hS : Step No w w := Step.refl _ _
 refine CV_enter Try.f10 _ 23 [(0, .agg #[.int .i64 r, .bool bk, .int .i64 k, .slice A n c])] Try.func10 rfl rfl (by kernel_rfl) rfl ?_
 refine VC_seq ?_
 refine VC_region ?_
 have hzs1 := hS.size
 refine VL_box (d := 1) (t := 24) (c := #[.int .i64 r, .bool bk, .int .i64 k, .slice A n c]) (by kernel_rfl) (by kernel_rfl) ?_
 intro b1 w1 hn1
 replace hS := Step.trans hS (hn1.step No)
 replace hA := hA.no (hn1.step No)
 have ho1 := hn1.own
 have hzhn1 := hn1.size
 have hqhn1 := hn1.eqb
 refine VL_pure 2 [1] [(1, .pointer (some ⟨b1, 0, none⟩))] (by kernel_rfl) rfl ?_
 refine VL_end (by kernel_rfl) ?_
 refine VQ_next ?_
 refine VC_seq ?_
 refine VC_seq ?_
 refine VC_region ?_
 refine VL_pure 1 [1, 4] [(1, .pointer (some ⟨b1, 0, none⟩)), (4, .pointer (some ⟨b1, 3, none⟩))] (by kernel_rfl) rfl ?_
 refine VL_load (d := 5) (t := 22) (a := ⟨b1, 3, none⟩) (v := .slice A n c) (by kernel_rfl) (by kernel_rfl) (Loads.own1 ho1 (by kernel_rfl) (by rfl)) ?_
 refine VL_pure 4 [1, 6, 7] [(1, .pointer (some ⟨b1, 0, none⟩)), (6, .int .i64 ((n : Nat) : Int)), (7, .int .i64 0)] (by kernel_rfl) rfl ?_
 refine VL_end (by kernel_rfl) ?_
 refine VQ_next ?_
 refine VC_block ?_
 refine VC_loop (σ := Nat) (fun σs => [(1, .pointer (some ⟨b1, 0, none⟩)), (6, .int .i64 ((n : Nat) : Int)), (7, .int .i64 ((σs : Nat) : Int))]) (fun σs w2 => (σs ≤ n) ∧ (∀ i y, i < σs → l[i]? = some y → y.n ≤ 300) ∧ (Step No w w2) ∧ (Ies w2 lo hi A l) ∧ (Own w2 b1 #[.int .i64 r, .bool bk, .int .i64 k, .slice A n c] 24)) (fun σs w2 => n - σs) 0 ⟨rfl, rfl, rfl, trivial⟩ ?_ ?_
 ·exact ⟨Nat.zero_le _, fun i y hi => absurd hi (Nat.not_lt_zero _), hS, hA, ho1⟩
 rintro j w2 ⟨hj, hz, hS, hA, ho1⟩
 try dsimp only at hj hz hS hA ho1 ⊢
 refine VC_seq ?_
 refine VC_region ?_
 refine VL_pure 1 [1, 6, 7, 8] [(1, .pointer (some ⟨b1, 0, none⟩)), (6, .int .i64 ((n : Nat) : Int)), (7, .int .i64 ((j : Nat) : Int)), (8, .bool (decide (((j : Nat) : Int) < ((n : Nat) : Int))))] (by kernel_rfl) rfl ?_
 refine VL_end (by kernel_rfl) ?_
 refine VQ_next ?_
 refine VC_seq ?_
 refine VC_dec (((j : Nat) : Int) < ((n : Nat) : Int)) (by kernel_rfl) (fun h1 => ?_) (fun h1 => ?_)
 ·refine VC_skip ?_
  refine VQ_next ?_
  refine VC_seq ?_
  refine VC_block ?_
  refine VC_seq ?_
  refine VC_region ?_
  refine VL_pure 2 [1, 6, 7, 3] [(1, .pointer (some ⟨b1, 0, none⟩)), (6, .int .i64 ((n : Nat) : Int)), (7, .int .i64 ((j : Nat) : Int)), (3, .int .i64 ((j : Nat) : Int))] (by kernel_rfl) rfl ?_
  refine VL_end (by kernel_rfl) ?_
  refine VQ_next ?_
  refine VC_seq ?_
  refine VC_region ?_
  refine VL_pure 1 [1, 6, 7, 3, 10] [(1, .pointer (some ⟨b1, 0, none⟩)), (6, .int .i64 ((n : Nat) : Int)), (7, .int .i64 ((j : Nat) : Int)), (3, .int .i64 ((j : Nat) : Int)), (10, .pointer (some ⟨b1, 3, none⟩))] (by kernel_rfl) rfl ?_
  refine VL_load (d := 11) (t := 22) (a := ⟨b1, 3, none⟩) (v := .slice A n c) (by kernel_rfl) (by kernel_rfl) (Loads.own1 ho1 (by kernel_rfl) (by rfl)) ?_
  refine VL_pure 3 [1, 6, 7, 11, 12] [(1, .pointer (some ⟨b1, 0, none⟩)), (6, .int .i64 ((n : Nat) : Int)), (7, .int .i64 ((j : Nat) : Int)), (11, .slice A n c), (12, .int .i64 ((j : Nat) : Int))] (by kernel_rfl) rfl ?_
  obtain ⟨sb1, so1, rfl, hlbsb1⟩ := hA.open (by omega)
  refine VL_index (d := 13) (b := sb1) (o := so1) (len := n) (sz := 2) (m := ((j : Nat) : Int)) (by kernel_rfl) (by kernel_rfl) j (by rfl) (by omega) (so1 + j * 2) (by omega) ?_
  refine VL_pure 5 [1, 6, 7, 14] [(1, .pointer (some ⟨b1, 0, none⟩)), (6, .int .i64 ((n : Nat) : Int)), (7, .int .i64 ((j : Nat) : Int)), (14, .pointer (some ⟨sb1, so1 + j * 2 + 1, none⟩))] (by kernel_rfl) rfl ?_
  obtain ⟨⟨x1i, x1A, x1n, x1c, x1b⟩, hx1⟩ : ∃ x, l[j]? = some x := ⟨_, List.getElem?_eq_getElem (by omega)⟩
  obtain ⟨hnx1, hcx1, hbx1⟩ := Ies.body hA hx1
  dsimp only at hnx1 hcx1 hbx1
  refine VL_load (d := 15) (t := 25) (a := ⟨sb1, so1 + j * 2 + 1, none⟩) (v := .slice x1A x1n x1c) (by kernel_rfl) (by kernel_rfl) (Ies.ld1 hA (by kernel_rfl) hx1) ?_
  refine VL_pure 8 [1, 6, 7, 17] [(1, .pointer (some ⟨b1, 0, none⟩)), (6, .int .i64 ((n : Nat) : Int)), (7, .int .i64 ((j : Nat) : Int)), (17, .bool (decide (((x1n : Nat) : Int) > 300)))] (by kernel_rfl) rfl ?_
  refine VL_end (by kernel_rfl) ?_
  refine VQ_next ?_
  refine VC_dec (((x1n : Nat) : Int) > 300) (by kernel_rfl) (fun h2 => ?_) (fun h2 => ?_)
  ·refine VC_seq ?_
   refine VC_region ?_
   refine VL_pure 1 [2] [(2, .bool false)] (by kernel_rfl) rfl ?_
   refine VL_end (by kernel_rfl) ?_
   refine VQ_next ?_
   refine VC_ret ?_
   refine VQ_block_ret ?_
   refine VQ_then_ret ?_
   refine VQ_then_ret ?_
   refine VQ_block_ret ?_
   refine VQ_then_ret ?_
   refine VQ_ret1 (.bool false) (.inr rfl) rfl rfl ?_
   exact ⟨congrArg Value.bool (Eq.symm (fewB_no hx1 (by dsimp only; omega))), hS⟩
  ·refine VC_skip ?_
   refine VQ_block_normal ?_
   refine VQ_next ?_
   refine VC_region ?_
   refine VL_pure 1 [1, 6, 18] [(1, .pointer (some ⟨b1, 0, none⟩)), (6, .int .i64 ((n : Nat) : Int)), (18, .int .i64 (IntKind.wrap .i64 (((j : Nat) : Int) + 1)))] (by kernel_rfl) rfl ?_
   have he1 : IntKind.wrap .i64 (((j : Nat) : Int) + 1) = ((j + 1 : Nat) : Int) := (by rw [wrap_i64 _ (by omega) (by omega)]; omega)
   refine VL_eq [(1, .pointer (some ⟨b1, 0, none⟩)), (6, .int .i64 ((n : Nat) : Int)), (18, .int .i64 ((j + 1 : Nat) : Int))] (by rw [he1]) ?_
   refine VL_pure 2 [1, 6, 7] [(1, .pointer (some ⟨b1, 0, none⟩)), (6, .int .i64 ((n : Nat) : Int)), (7, .int .i64 ((j + 1 : Nat) : Int))] (by kernel_rfl) rfl ?_
   refine VL_end (by kernel_rfl) ?_
   refine VQ_again (j + 1) ⟨rfl, rfl, rfl, trivial⟩ ?_ ?_
   ·exact ⟨(by omega), fun i y hi hy => by rcases Nat.lt_succ_iff_lt_or_eq.1 hi with h9 | rfl; exact hz i y h9 hy; rw [hx1] at hy; cases hy; dsimp only; omega, hS, hA, ho1⟩
   ·(try dsimp only); omega
 ·refine VC_exit ?_
  refine VQ_then_exit ?_
  refine VQ_then_exit ?_
  refine VQ_block_hit ?_
  refine VQ_next ?_
  refine VC_seq ?_
  refine VC_region ?_
  refine VL_pure 1 [19] [(19, .pointer (some ⟨b1, 3, none⟩))] (by kernel_rfl) rfl ?_
  refine VL_load (d := 20) (t := 22) (a := ⟨b1, 3, none⟩) (v := .slice A n c) (by kernel_rfl) (by kernel_rfl) (Loads.own1 ho1 (by kernel_rfl) (by rfl)) ?_
  refine VL_pure 5 [2] [(2, .bool (decide (((n : Nat) : Int) ≤ 20)))] (by kernel_rfl) rfl ?_
  refine VL_end (by kernel_rfl) ?_
  refine VQ_next ?_
  refine VC_ret ?_
  refine VQ_ret1 (.bool (decide (((n : Nat) : Int) ≤ 20))) (.inr rfl) rfl rfl ?_
  exact ⟨congrArg Value.bool (Eq.symm (fewB_is hn (fun i y hi hy => hz i y (by omega) hy))), hS⟩

end Go.Proofs.Ytejpcmjokamdcaa
end

section
/- Layers 6, 9, 15 in plain Lean: contracts, keys, causes as bodies. -/
set_option linter.unusedVariables false
set_option linter.unusedSimpArgs false
namespace Go.Proofs.Ytejpcmjokamdcaa
open Go.Vc
def spanB (n least : Int) : Bool := decide (n ≥ least) && decide (n ≤ 1099511627776)
theorem spanB_T {n least : Int} (h : spanB n least = true) : least ≤ n ∧ n ≤ 1099511627776 := by simpa [spanB] using h
theorem spanB_F {n least : Int} (h : spanB n least = false) : ¬ (least ≤ n ∧ n ≤ 1099511627776) := fun h2 => by simp [spanB, h2] at h
def fineC (k p e h b t : Int) : Prop := (1 ≤ p ∧ p ≤ 1099511627776) ∧ (0 ≤ e ∧ e ≤ 1099511627776) ∧
  ((2 ≤ k ∧ k ≤ 4 ∧ (p ≤ h ∧ h ≤ 1099511627776) ∧ (0 ≤ b ∧ b ≤ 1099511627776) ∧ t = 0) ∨ (¬ (2 ≤ k ∧ k ≤ 4) ∧ h = 0 ∧ b = 0 ∧ (t = 0 ∨ k = 5 ∧ p ≤ t ∧ t ≤ 1099511627776)))
instance (k p e h b t : Int) : Decidable (fineC k p e h b t) := by unfold fineC; infer_instance
/-- What is wrong with a contract. -/
def rightC (k p e h b t : Int) : Int := if k < 1 ∨ 7 < k then 12 else if fineC k p e h b t then 0 else 11
theorem rightC_12 {k p e h b t : Int} (h1 : k < 1 ∨ 7 < k) : rightC k p e h b t = 12 := if_pos h1
theorem rightC_0 {k p e h b t : Int} (h1 : 1 ≤ k ∧ k ≤ 7) (h2 : fineC k p e h b t) : rightC k p e h b t = 0 := by rw [rightC, if_neg (by omega), if_pos h2]
theorem rightC_11 {k p e h b t : Int} (h1 : 1 ≤ k ∧ k ≤ 7) (h2 : ¬ fineC k p e h b t) : rightC k p e h b t = 11 := by rw [rightC, if_neg (by omega), if_neg h2]
theorem rightC_of {k p e h b t : Int} (h1 : rightC k p e h b t = 0) : (1 ≤ k ∧ k ≤ 7) ∧ fineC k p e h b t := by
  unfold rightC at h1
  by_cases h2 : k < 1 ∨ 7 < k
  · rw [if_pos h2] at h1; cases h1
  · by_cases h3 : fineC k p e h b t
    · exact ⟨by omega, h3⟩
    · rw [if_neg h2, if_neg h3] at h1; cases h1
theorem rightC_few (k p e h b t : Int) : rightC k p e h b t = 0 ∨ rightC k p e h b t = 11 ∨ rightC k p e h b t = 12 := by
  unfold rightC
  by_cases h2 : k < 1 ∨ 7 < k
  · rw [if_pos h2]; simp
  · by_cases h3 : fineC k p e h b t
    · rw [if_neg h2, if_pos h3]; simp
    · rw [if_neg h2, if_neg h3]; simp
theorem right_nat {k p e h b t : Int} (h1 : rightC k p e h b t = 0) : (1 ≤ k ∧ k ≤ 7) ∧ (0 ≤ p ∧ p ≤ 1099511627776) ∧ (0 ≤ e ∧ e ≤ 1099511627776) ∧ (0 ≤ h ∧ h ≤ 1099511627776) ∧ (0 ≤ b ∧ b ≤ 1099511627776) ∧ (0 ≤ t ∧ t ≤ 1099511627776) := by
  obtain ⟨h2, h3⟩ := rightC_of h1
  unfold fineC at h3
  omega
def rightK (p v c : Int) : Bool := decide (0 ≤ p ∧ p < 8 ∧ 0 ≤ v ∧ v < 4096 ∧ 0 ≤ c ∧ c < 65536)
theorem rightK_T {p v c : Int} (h : rightK p v c = true) : 0 ≤ p ∧ p < 8 ∧ 0 ≤ v ∧ v < 4096 ∧ 0 ≤ c ∧ c < 65536 := by simpa [rightK] using h
def fromB (n low high : Int) : Bool := decide (n ≥ low) && decide (n ≤ high)
def isE (id want n size : Int) : Int := if id ≠ want then 12 else if n ≠ size then 5 else 0
theorem isE_0 {id want n size : Int} (h : isE id want n size = 0) : id = want ∧ n = size := by
  unfold isE at h
  by_cases h1 : id = want
  · rw [if_neg (fun q => q h1)] at h
    by_cases h2 : n = size
    · exact ⟨h1, h2⟩
    · rw [if_pos h2] at h; cases h
  · rw [if_pos h1] at h; cases h
theorem isE_n {id want n size : Int} (h : isE id want n size ≠ 0) : id ≠ want ∧ isE id want n size = 12 ∨ id = want ∧ n ≠ size ∧ isE id want n size = 5 := by
  unfold isE at h ⊢
  by_cases h1 : id = want
  · rw [if_neg (fun q => q h1)] at h ⊢
    by_cases h2 : n = size
    · rw [if_neg (fun q => q h2)] at h; exact absurd rfl h
    · exact .inr ⟨h1, h2, if_pos h2⟩
  · exact .inl ⟨h1, if_pos h1⟩
/-! ### Bodies -/
theorem digL_front (v i : Nat) : digL v (i + 1) = IntKind.wrap .u8 ((v / 256 ^ i % 256 : Nat) : Int) :: digL v i := by
  unfold digL
  rw [List.range_succ_eq_map, List.map_cons, List.map_map]
  congr 1
  · rw [fdiv_nat, wrap_u8, wrap_u8, show i + 1 - 1 - 0 = i by omega, show (2 : Nat) ^ (8 * i) = 256 ^ i by rw [Nat.pow_mul], show (2 : Nat) ^ 8 = 256 from rfl, Nat.mod_mod]
  · apply List.map_congr_left
    intro j hj
    have := List.mem_range.1 hj
    simp only [Function.comp]
    rw [show i + 1 - 1 - (j + 1) = i - 1 - j by omega]
theorem natL_append : ∀ (xs ys : List Int) (a : Nat), (xs ++ ys).foldl (fun n x => n * 256 + x.toNat) a = ys.foldl (fun n x => n * 256 + x.toNat) (xs.foldl (fun n x => n * 256 + x.toNat) a) := fun xs ys a => List.foldl_append
theorem natL_dig (v : Nat) : ∀ (i a : Nat), (digL v i).foldl (fun n x => n * 256 + x.toNat) a = a * 256 ^ i + v % 256 ^ i
  | 0, a => by simp [digL, Nat.mod_one]
  | i + 1, a => by
    have hb : (IntKind.wrap .u8 ((v / 256 ^ i % 256 : Nat) : Int)).toNat = v / 256 ^ i % 256 := by
      rw [wrap_u8, Int.toNat_natCast]; exact Nat.mod_eq_of_lt (show v / 256 ^ i % 256 < 2 ^ 8 by omega)
    rw [digL_front, List.foldl_cons, natL_dig v i, hb, Nat.pow_succ, Nat.mod_mul]
    have h1 : (a * 256 + v / 256 ^ i % 256) * 256 ^ i = a * (256 ^ i * 256) + 256 ^ i * (v / 256 ^ i % 256) := by
      rw [Nat.add_mul, Nat.mul_assoc, Nat.mul_comm 256 (256 ^ i), Nat.mul_comm (v / 256 ^ i % 256)]
    omega
theorem natL_digL {v i : Nat} (h : v < 256 ^ i) : natL (digL v i) = v := by
  unfold natL
  rw [natL_dig, Nat.mod_eq_of_lt h]; omega
theorem getL_dig {v i : Nat} (h : v < 256 ^ i) (hi : i ≤ 6) : getL (digL v i) = (v : Int) := by
  rw [getL_eq (digL_bytes v i) (by rw [digL_len]; exact hi), natL_digL h]
theorem digL_1 {v : Nat} (h : v < 256) : digL v 1 = [(v : Int)] := by
  have : digL v 1 = [IntKind.wrap .u8 (((v : Nat) : Int).fdiv (2 ^ 0))] := rfl
  rw [this, fdiv_nat, wrap_u8, Nat.pow_zero, Nat.div_one, Nat.mod_eq_of_lt (show v < 2 ^ 8 by omega)]
def trafL (k : Int) (p e h b t : Nat) : List Int := IntKind.wrap .u8 k :: (digL p 6 ++ (digL e 6 ++ (digL h 6 ++ (digL b 6 ++ digL t 6))))
def keyL (p v c : Nat) : List Int := digL p 1 ++ (digL v 2 ++ digL c 2)
theorem trafL_len (k : Int) (p e h b t : Nat) : (trafL k p e h b t).length = 31 := by simp [trafL, digL_len]
theorem keyL_len (p v c : Nat) : (keyL p v c).length = 5 := by simp [keyL, digL_len]
theorem trafL_bytes (k : Int) (p e h b t : Nat) : Bytes (trafL k p e h b t) := Bytes.cons (byte_wrap _) ((digL_bytes _ _).app ((digL_bytes _ _).app ((digL_bytes _ _).app ((digL_bytes _ _).app (digL_bytes _ _)))))
theorem keyL_bytes (p v c : Nat) : Bytes (keyL p v c) := (digL_bytes _ _).app ((digL_bytes _ _).app (digL_bytes _ _))
theorem seg {xs ys zs : List Int} {a m : Nat} (ha : xs.length = a) (hm : ys.length = m) : ((xs ++ (ys ++ zs)).drop a).take m = ys := by
  rw [List.drop_append_of_le_length (by omega), List.drop_of_length_le (by omega), List.nil_append, List.take_append_of_le_length (by omega), List.take_of_length_le (by omega)]
/-- The j-th span of a body. -/
def fld (bs : List Int) (j : Nat) : Int := ((natL ((bs.drop (1 + 6 * j)).take 6) : Nat) : Int)
theorem fld_0 {k : Int} {p e h b t : Nat} (hp : p ≤ 1099511627776) : fld (trafL k p e h b t) 0 = p := by
  unfold fld trafL
  rw [show IntKind.wrap .u8 k :: (digL p 6 ++ (digL e 6 ++ (digL h 6 ++ (digL b 6 ++ digL t 6)))) = [IntKind.wrap .u8 k] ++ (digL p 6 ++ (digL e 6 ++ (digL h 6 ++ (digL b 6 ++ digL t 6)))) from rfl, seg (by simp) (digL_len _ _), natL_digL (by omega)]
theorem fld_1 {k : Int} {p e h b t : Nat} (hp : e ≤ 1099511627776) : fld (trafL k p e h b t) 1 = e := by
  unfold fld trafL
  rw [show IntKind.wrap .u8 k :: (digL p 6 ++ (digL e 6 ++ (digL h 6 ++ (digL b 6 ++ digL t 6)))) = (IntKind.wrap .u8 k :: digL p 6) ++ (digL e 6 ++ (digL h 6 ++ (digL b 6 ++ digL t 6))) from rfl, seg (by simp [digL_len]) (digL_len _ _), natL_digL (by omega)]
theorem fld_2 {k : Int} {p e h b t : Nat} (hp : h ≤ 1099511627776) : fld (trafL k p e h b t) 2 = h := by
  unfold fld trafL
  rw [show IntKind.wrap .u8 k :: (digL p 6 ++ (digL e 6 ++ (digL h 6 ++ (digL b 6 ++ digL t 6)))) = (IntKind.wrap .u8 k :: (digL p 6 ++ digL e 6)) ++ (digL h 6 ++ (digL b 6 ++ digL t 6)) by simp, seg (by simp [digL_len]) (digL_len _ _), natL_digL (by omega)]
theorem fld_3 {k : Int} {p e h b t : Nat} (hp : b ≤ 1099511627776) : fld (trafL k p e h b t) 3 = b := by
  unfold fld trafL
  rw [show IntKind.wrap .u8 k :: (digL p 6 ++ (digL e 6 ++ (digL h 6 ++ (digL b 6 ++ digL t 6)))) = (IntKind.wrap .u8 k :: (digL p 6 ++ (digL e 6 ++ digL h 6))) ++ (digL b 6 ++ digL t 6) by simp, seg (by simp [digL_len]) (digL_len _ _), natL_digL (by omega)]
theorem fld_4 {k : Int} {p e h b t : Nat} (hp : t ≤ 1099511627776) : fld (trafL k p e h b t) 4 = t := by
  unfold fld trafL
  rw [show IntKind.wrap .u8 k :: (digL p 6 ++ (digL e 6 ++ (digL h 6 ++ (digL b 6 ++ digL t 6)))) = (IntKind.wrap .u8 k :: (digL p 6 ++ (digL e 6 ++ (digL h 6 ++ digL b 6)))) ++ (digL t 6 ++ []) by simp, seg (by simp [digL_len]) (digL_len _ _), natL_digL (by omega)]
/-! ### What is read -/
def rtR (bs : List Int) : Int := rightC (IntKind.wrap .i64 (bs.getD 0 0)) (fld bs 0) (fld bs 1) (fld bs 2) (fld bs 3) (fld bs 4)
def rtE (id : Int) (bs : List Int) : Int := if id ≠ 89 then 12 else if bs.length ≠ 31 then 5 else rtR bs
def rtV (id : Int) (bs : List Int) (x : Int) : Int := if rtE id bs = 0 then x else 0
theorem rt_12 {id : Int} {bs : List Int} (h : id ≠ 89) : rtE id bs = 12 := if_pos h
theorem rt_5 {id : Int} {bs : List Int} (h : id = 89) (h2 : bs.length ≠ 31) : rtE id bs = 5 := by rw [rtE, if_neg (fun q => q h), if_pos h2]
theorem rt_r {id : Int} {bs : List Int} (h : id = 89) (h2 : bs.length = 31) : rtE id bs = rtR bs := by rw [rtE, if_neg (fun q => q h), if_neg (fun q => q h2)]
def fk (bs : List Int) (a m : Nat) : Int := ((natL ((bs.drop a).take m) : Nat) : Int)
def rkE (id : Int) (bs : List Int) : Int := if id ≠ 90 then 12 else if bs.length ≠ 5 then 5 else if rightK (fk bs 0 1) (fk bs 1 2) (fk bs 3 2) = true then 0 else 1
def rkV (id : Int) (bs : List Int) (x : Int) : Int := if rkE id bs = 0 then x else 0
theorem rk_12 {id : Int} {bs : List Int} (h : id ≠ 90) : rkE id bs = 12 := if_pos h
theorem rk_5 {id : Int} {bs : List Int} (h : id = 90) (h2 : bs.length ≠ 5) : rkE id bs = 5 := by rw [rkE, if_neg (fun q => q h), if_pos h2]
theorem rk_0 {id : Int} {bs : List Int} (h : id = 90) (h2 : bs.length = 5) (h3 : rightK (fk bs 0 1) (fk bs 1 2) (fk bs 3 2) = true) : rkE id bs = 0 := by rw [rkE, if_neg (fun q => q h), if_neg (fun q => q h2), if_pos h3]
theorem rk_1 {id : Int} {bs : List Int} (h : id = 90) (h2 : bs.length = 5) (h3 : rightK (fk bs 0 1) (fk bs 1 2) (fk bs 3 2) = false) : rkE id bs = 1 := by rw [rkE, if_neg (fun q => q h), if_neg (fun q => q h2), if_neg (by rw [h3]; simp)]
def rcE (id : Int) (bs : List Int) : Int := if id ≠ 8 then 12 else if bs.length ≠ 2 ∨ bs.getD 0 0 ≠ 0 ∨ bs.getD 1 0 > 127 then 5 else 0
def rcV (id : Int) (bs : List Int) : Int := if rcE id bs = 0 then IntKind.wrap .i64 (bs.getD 1 0) else 0
theorem rc_12 {id : Int} {bs : List Int} (h : id ≠ 8) : rcE id bs = 12 := if_pos h
theorem rc_5 {id : Int} {bs : List Int} (h : id = 8) (h2 : bs.length ≠ 2 ∨ bs.getD 0 0 ≠ 0 ∨ bs.getD 1 0 > 127) : rcE id bs = 5 := by rw [rcE, if_neg (fun q => q h), if_pos h2]
theorem rc_0 {id : Int} {bs : List Int} (h : id = 8) (h1 : bs.length = 2) (h2 : bs.getD 0 0 = 0) (h3 : ¬ bs.getD 1 0 > 127) : rcE id bs = 0 := by rw [rcE, if_neg (fun q => q h), if_neg (by omega)]
theorem rtV_0 {id : Int} {bs : List Int} (h : rtE id bs = 0) (x : Int) : rtV id bs x = x := if_pos h
theorem rtV_n {id : Int} {bs : List Int} (h : rtE id bs ≠ 0) (x : Int) : rtV id bs x = 0 := if_neg h
theorem rkV_0 {id : Int} {bs : List Int} (h : rkE id bs = 0) (x : Int) : rkV id bs x = x := if_pos h
theorem rkV_n {id : Int} {bs : List Int} (h : rkE id bs ≠ 0) (x : Int) : rkV id bs x = 0 := if_neg h
theorem rcV_0 {id : Int} {bs : List Int} (h : rcE id bs = 0) : rcV id bs = IntKind.wrap .i64 (bs.getD 1 0) := if_pos h
theorem rcV_n {id : Int} {bs : List Int} (h : rcE id bs ≠ 0) : rcV id bs = 0 := if_neg h
theorem rt_is {id : Int} {bs : List Int} {n : Nat} (hn : bs.length = n) (h : isE id 89 n 31 ≠ 0) : isE id 89 n 31 = rtE id bs ∧ rtE id bs ≠ 0 := by
  rcases isE_n h with ⟨h1, h2⟩ | ⟨h1, h2, h3⟩
  · rw [h2, rt_12 h1]; exact ⟨rfl, by decide⟩
  · rw [h3, rt_5 h1 (by omega)]; exact ⟨rfl, by decide⟩
theorem rk_is {id : Int} {bs : List Int} {n : Nat} (hn : bs.length = n) (h : isE id 90 n 5 ≠ 0) : isE id 90 n 5 = rkE id bs ∧ rkE id bs ≠ 0 := by
  rcases isE_n h with ⟨h1, h2⟩ | ⟨h1, h2, h3⟩
  · rw [h2, rk_12 h1]; exact ⟨rfl, by decide⟩
  · rw [h3, rk_5 h1 (by omega)]; exact ⟨rfl, by decide⟩
theorem rc_is {id : Int} {bs : List Int} {n : Nat} (hn : bs.length = n) (h : isE id 8 n 2 ≠ 0) : isE id 8 n 2 = rcE id bs ∧ rcE id bs ≠ 0 := by
  rcases isE_n h with ⟨h1, h2⟩ | ⟨h1, h2, h3⟩
  · rw [h2, rc_12 h1]; exact ⟨rfl, by decide⟩
  · rw [h3, rc_5 h1 (.inl (by omega))]; exact ⟨rfl, by decide⟩
theorem traf_kind {k : Int} {p e h b t : Nat} (hk : 1 ≤ k ∧ k ≤ 7) : IntKind.wrap .i64 ((trafL k p e h b t).getD 0 0) = k := by
  obtain ⟨m, rfl⟩ : ∃ m : Nat, k = m := ⟨k.toNat, by omega⟩
  rw [show (trafL ((m : Nat) : Int) p e h b t).getD 0 0 = IntKind.wrap .u8 ((m : Nat) : Int) from rfl, wrap_u8, Nat.mod_eq_of_lt (by omega), wrap_i64 _ (by omega) (by omega)]
/-- A contract as a body is read as what it was. -/
theorem traf_back {k : Int} {p e h b t : Nat} (hr : rightC k p e h b t = 0) : rtE 89 (trafL k p e h b t) = 0 ∧ IntKind.wrap .i64 ((trafL k p e h b t).getD 0 0) = k ∧ fld (trafL k p e h b t) 0 = p ∧ fld (trafL k p e h b t) 1 = e ∧ fld (trafL k p e h b t) 2 = h ∧ fld (trafL k p e h b t) 3 = b ∧ fld (trafL k p e h b t) 4 = t := by
  have hn := right_nat hr
  have h0 := traf_kind (p := p) (e := e) (h := h) (b := b) (t := t) hn.1
  have h1 := fld_0 (k := k) (e := e) (h := h) (b := b) (t := t) (show p ≤ 1099511627776 by omega)
  have h2 := fld_1 (k := k) (p := p) (h := h) (b := b) (t := t) (show e ≤ 1099511627776 by omega)
  have h3 := fld_2 (k := k) (p := p) (e := e) (b := b) (t := t) (show h ≤ 1099511627776 by omega)
  have h4 := fld_3 (k := k) (p := p) (e := e) (h := h) (t := t) (show b ≤ 1099511627776 by omega)
  have h5 := fld_4 (k := k) (p := p) (e := e) (h := h) (b := b) (show t ≤ 1099511627776 by omega)
  refine ⟨?_, h0, h1, h2, h3, h4, h5⟩
  rw [rt_r rfl (trafL_len ..), rtR, h0, h1, h2, h3, h4, h5, hr]
theorem key_back {p v c : Nat} (hr : rightK p v c = true) : rkE 90 (keyL p v c) = 0 ∧ fk (keyL p v c) 0 1 = p ∧ fk (keyL p v c) 1 2 = v ∧ fk (keyL p v c) 3 2 = c := by
  have hn := rightK_T hr
  have h0 : fk (keyL p v c) 0 1 = p := by
    unfold fk keyL
    rw [show digL p 1 ++ (digL v 2 ++ digL c 2) = [] ++ (digL p 1 ++ (digL v 2 ++ digL c 2)) from rfl, seg (by simp) (digL_len _ _), natL_digL (by omega)]
  have h1 : fk (keyL p v c) 1 2 = v := by
    unfold fk keyL
    rw [seg (digL_len _ _) (digL_len _ _), natL_digL (by omega)]
  have h2 : fk (keyL p v c) 3 2 = c := by
    unfold fk keyL
    rw [show digL p 1 ++ (digL v 2 ++ digL c 2) = (digL p 1 ++ digL v 2) ++ (digL c 2 ++ []) by simp, seg (by simp [digL_len]) (digL_len _ _), natL_digL (by omega)]
  exact ⟨rk_0 rfl (keyL_len ..) (by rw [h0, h1, h2]; exact hr), h0, h1, h2⟩
/-- Two contracts with one body are one. -/
theorem traf_inj {k k' : Int} {p e h b t p' e' h' b' t' : Nat} (hr : rightC k p e h b t = 0) (hr' : rightC k' p' e' h' b' t' = 0) (hq : trafL k p e h b t = trafL k' p' e' h' b' t') : k = k' ∧ p = p' ∧ e = e' ∧ h = h' ∧ b = b' ∧ t = t' := by
  obtain ⟨_, h0, h1, h2, h3, h4, h5⟩ := traf_back hr
  obtain ⟨_, g0, g1, g2, g3, g4, g5⟩ := traf_back hr'
  rw [hq] at h0 h1 h2 h3 h4 h5
  omega
theorem key_inj {p v c p' v' c' : Nat} (hr : rightK p v c = true) (hr' : rightK p' v' c' = true) (hq : keyL p v c = keyL p' v' c') : p = p' ∧ v = v' ∧ c = c' := by
  obtain ⟨_, h0, h1, h2⟩ := key_back hr
  obtain ⟨_, g0, g1, g2⟩ := key_back hr'
  rw [hq] at h0 h1 h2
  omega
end Go.Proofs.Ytejpcmjokamdcaa
end

section
/- Layer 15: causes out of elements. -/
set_option linter.unusedVariables false
set_option linter.unusedSimpArgs false
namespace Go.Proofs.Ytejpcmjokamdcaa
open Go.Vc Go.RowKit

set_option maxRecDepth 100000 in
set_option maxHeartbeats 4000000 in
theorem is_any (id : Int) (A : Option Addr) (n c : Nat) (want size : Int) (w : World) :
  CV Try.prog 56 #[.agg #[.int .u8 id, .slice A n c], .int .u8 want, .int .i64 size] w (fun x w1 => x = .int .i64 (isE id want ((n : Nat) : Int) size) ∧ Step No w w1) := by
 have hS : Step No w w := Step.refl _ _
 refine CV_enter Try.f56 _ 18 [(0, .agg #[.int .u8 id, .slice A n c]), (1, .int .u8 want), (2, .int .i64 size)] Try.func56 rfl rfl (by kernel_rfl) rfl ?_
 refine VC_seq ?_
 refine VC_region ?_
 have hzs1 := hS.size
 refine VL_box (d := 3) (t := 60) (c := #[.int .u8 id, .slice A n c]) (by kernel_rfl) (by kernel_rfl) ?_
 intro b1 w1 hn1
 replace hS := Step.trans hS (hn1.step No)
 have ho1 := hn1.own
 have hzhn1 := hn1.size
 have hqhn1 := hn1.eqb
 refine VL_pure 2 [1, 2, 3] [(1, .int .u8 want), (2, .int .i64 size), (3, .pointer (some ⟨b1, 0, none⟩))] (by kernel_rfl) rfl ?_
 refine VL_end (by kernel_rfl) ?_
 refine VQ_next ?_
 refine VC_seq ?_
 refine VC_block ?_
 refine VC_seq ?_
 refine VC_region ?_
 refine VL_pure 1 [1, 2, 3, 8] [(1, .int .u8 want), (2, .int .i64 size), (3, .pointer (some ⟨b1, 0, none⟩)), (8, .pointer (some ⟨b1, 0, none⟩))] (by kernel_rfl) rfl ?_
 refine VL_load (d := 9) (t := 5) (a := ⟨b1, 0, none⟩) (v := .int .u8 id) (by kernel_rfl) (by kernel_rfl) (Loads.own1 ho1 (by kernel_rfl) (by rfl)) ?_
 refine VL_pure 5 [2, 3, 7] [(2, .int .i64 size), (3, .pointer (some ⟨b1, 0, none⟩)), (7, .bool (id != want))] (by kernel_rfl) rfl ?_
 refine VL_end (by kernel_rfl) ?_
 refine VQ_next ?_
 refine VC_ne id want (by kernel_rfl) (fun h1 => ?_) (fun h1 => ?_)
 ·refine VC_seq ?_
  refine VC_region ?_
  refine VL_pure 1 [6] [(6, .int .i64 12)] (by kernel_rfl) rfl ?_
  refine VL_end (by kernel_rfl) ?_
  refine VQ_next ?_
  refine VC_ret ?_
  refine VQ_block_ret ?_
  refine VQ_then_ret ?_
  refine VQ_ret1 (.int .i64 12) (.inr rfl) rfl rfl ?_
  exact ⟨congrArg (Value.int .i64) (by unfold isE; first | rw [if_pos (by omega)] | rw [if_neg (by omega), if_pos (by omega)] | rw [if_neg (by omega), if_neg (by omega)]), hS⟩
 ·refine VC_seq ?_
  refine VC_region ?_
  refine VL_pure 1 [2, 13] [(2, .int .i64 size), (13, .pointer (some ⟨b1, 1, none⟩))] (by kernel_rfl) rfl ?_
  refine VL_load (d := 14) (t := 25) (a := ⟨b1, 1, none⟩) (v := .slice A n c) (by kernel_rfl) (by kernel_rfl) (Loads.own1 ho1 (by kernel_rfl) (by rfl)) ?_
  refine VL_pure 6 [12] [(12, .bool (((n : Nat) : Int) != size))] (by kernel_rfl) rfl ?_
  refine VL_end (by kernel_rfl) ?_
  refine VQ_next ?_
  refine VC_ne ((n : Nat) : Int) size (by kernel_rfl) (fun h2 => ?_) (fun h2 => ?_)
  ·refine VC_seq ?_
   refine VC_region ?_
   refine VL_pure 1 [6] [(6, .int .i64 5)] (by kernel_rfl) rfl ?_
   refine VL_end (by kernel_rfl) ?_
   refine VQ_next ?_
   refine VC_ret ?_
   refine VQ_block_ret ?_
   refine VQ_then_ret ?_
   refine VQ_ret1 (.int .i64 5) (.inr rfl) rfl rfl ?_
   exact ⟨congrArg (Value.int .i64) (by unfold isE; first | rw [if_pos (by omega)] | rw [if_neg (by omega), if_pos (by omega)] | rw [if_neg (by omega), if_neg (by omega)]), hS⟩
  ·refine VC_skip ?_
   refine VQ_block_normal ?_
   refine VQ_next ?_
   refine VC_seq ?_
   refine VC_region ?_
   refine VL_pure 1 [6] [(6, .int .i64 0)] (by kernel_rfl) rfl ?_
   refine VL_end (by kernel_rfl) ?_
   refine VQ_next ?_
   refine VC_ret ?_
   refine VQ_ret1 (.int .i64 0) (.inr rfl) rfl rfl ?_
   exact ⟨congrArg (Value.int .i64) (by unfold isE; first | rw [if_pos (by omega)] | rw [if_neg (by omega), if_pos (by omega)] | rw [if_neg (by omega), if_neg (by omega)]), hS⟩

set_option maxRecDepth 100000 in
set_option maxHeartbeats 4000000 in
theorem rdcause_any (xi : Int) (A : Option Addr) (n c Bd : Nat) (bs : List Int) (w : World) (hn : bs.length = n) (hc : n ≤ c) (hA : Sl w Bd A (iL .u8 bs)) (hb : Bytes bs) (hBd : Bd ≤ w.heap.size) :
  CV Try.prog 37 #[.agg #[.int .u8 xi, .slice A n c]] w (fun x w1 => x = .tuple #[.int .i64 (rcV xi bs), .int .i64 (rcE xi bs)] ∧ Step No w w1) := by
 have hS : Step No w w := Step.refl _ _
 refine CV_enter Try.f37 _ 27 [(0, .agg #[.int .u8 xi, .slice A n c])] Try.func37 rfl rfl (by kernel_rfl) rfl ?_
 refine VC_seq ?_
 refine VC_region ?_
 have hzs1 := hS.size
 refine VL_box (d := 1) (t := 60) (c := #[.int .u8 xi, .slice A n c]) (by kernel_rfl) (by kernel_rfl) ?_
 intro b1 w1 hn1
 replace hS := Step.trans hS (hn1.step No)
 replace hA := hA.no (hn1.step No)
 have ho1 := hn1.own
 have hzhn1 := hn1.size
 have hqhn1 := hn1.eqb
 refine VL_pure 3 [1] [(1, .pointer (some ⟨b1, 0, none⟩))] (by kernel_rfl) rfl ?_
 refine VL_end (by kernel_rfl) ?_
 refine VQ_next ?_
 refine VC_seq ?_
 refine VC_seq ?_
 refine VC_region ?_
 refine VL_load (d := 5) (t := 60) (a := ⟨b1, 0, none⟩) (v := .agg #[.int .u8 xi, .slice A n c]) (by kernel_rfl) (by kernel_rfl) (Loads.ownL ho1 (n := 2) (by kernel_rfl) (by kernel_rfl) (by kernel_rfl)) ?_
 have hzs2 := hS.size
 have hzl1 := ho1.lt
 refine VL_call (d := 6) (f := 56) (by kernel_rfl) (by kernel_rfl) (by kernel_rfl) Try.call56 (is_any xi A n c 8 2 _) ?_
 rintro _ w2 ⟨rfl, hc1⟩
 replace hS := Step.trans hS hc1
 replace hA := hA.no hc1
 replace ho1 := ho1.no hc1
 refine VL_pure 3 [1, 4] [(1, .pointer (some ⟨b1, 0, none⟩)), (4, .int .i64 (isE xi 8 ((n : Nat) : Int) 2))] (by kernel_rfl) rfl ?_
 refine VL_end (by kernel_rfl) ?_
 refine VQ_next ?_
 refine VC_seq ?_
 refine VC_region ?_
 refine VL_pure 2 [1, 4, 8] [(1, .pointer (some ⟨b1, 0, none⟩)), (4, .int .i64 (isE xi 8 ((n : Nat) : Int) 2)), (8, .bool ((isE xi 8 ((n : Nat) : Int) 2) != 0))] (by kernel_rfl) rfl ?_
 refine VL_end (by kernel_rfl) ?_
 refine VQ_next ?_
 refine VC_ne (isE xi 8 ((n : Nat) : Int) 2) 0 (by kernel_rfl) (fun h1 => ?_) (fun h1 => ?_)
 ·refine VC_seq ?_
  refine VC_region ?_
  refine VL_pure 3 [2, 3] [(2, .int .i64 0), (3, .int .i64 (isE xi 8 ((n : Nat) : Int) 2))] (by kernel_rfl) rfl ?_
  refine VL_end (by kernel_rfl) ?_
  refine VQ_next ?_
  refine VC_ret ?_
  refine VQ_then_ret ?_
  refine VQ_ret2 (.int .i64 0) (.int .i64 (isE xi 8 ((n : Nat) : Int) 2)) (.inr rfl) rfl rfl rfl ?_
  obtain ⟨hq1, hq2⟩ := rc_is hn (by assumption)
  exact ⟨by rw [hq1, rcV_n hq2], hS⟩
 ·refine VC_skip ?_
  refine VQ_next ?_
  refine VC_seq ?_
  refine VC_seq ?_
  obtain ⟨hxi, hn2⟩ := isE_0 (by first | assumption | exact Classical.not_not.1 (by assumption))
  obtain ⟨sb1, so1, rfl, hlbsb1⟩ := hA.open (by simp only [iL_length]; omega)
  refine VC_region ?_
  refine VL_pure 1 [1, 10] [(1, .pointer (some ⟨b1, 0, none⟩)), (10, .pointer (some ⟨b1, 1, none⟩))] (by kernel_rfl) rfl ?_
  refine VL_load (d := 11) (t := 25) (a := ⟨b1, 1, none⟩) (v := .slice (some ⟨sb1, so1, none⟩) n c) (by kernel_rfl) (by kernel_rfl) (Loads.own1 ho1 (by kernel_rfl) (by rfl)) ?_
  refine VL_index (d := 12) (b := sb1) (o := so1) (len := n) (sz := 1) (m := 0) (by kernel_rfl) (by kernel_rfl) 0 (by rfl) (by omega) so1 (by omega) ?_
  refine VL_load (d := 13) (t := 5) (a := ⟨sb1, so1, none⟩) (v := .int .u8 (bs.getD 0 0)) (by kernel_rfl) (by kernel_rfl) (Sl.ldI hA (by kernel_rfl) 0 (by (try simp only [List.length_set, List.length_append, List.length_map, List.length_replicate, List.length_cons, List.length_nil, List.length_take, List.length_drop, List.length_range]) <;> omega)) ?_
  refine VL_pure 6 [1, 15] [(1, .pointer (some ⟨b1, 0, none⟩)), (15, .bool ((bs.getD 0 0) != 0))] (by kernel_rfl) rfl ?_
  refine VL_bne (bs.getD 0 0) 0 (fun bV => [(1, .pointer (some ⟨b1, 0, none⟩)), (15, .bool bV)]) rfl (fun hg1 => ?_) (fun hg1 => ?_)
  ·refine VL_pure 12 [1, 21] [(1, .pointer (some ⟨b1, 0, none⟩)), (21, .bool true)] (by kernel_rfl) rfl ?_
   refine VL_end (by kernel_rfl) ?_
   refine VQ_next ?_
   refine VC_true (by kernel_rfl) ?_
   refine VC_seq ?_
   refine VC_region ?_
   refine VL_pure 2 [2, 3] [(2, .int .i64 0), (3, .int .i64 5)] (by kernel_rfl) rfl ?_
   refine VL_end (by kernel_rfl) ?_
   refine VQ_next ?_
   refine VC_ret ?_
   refine VQ_then_ret ?_
   refine VQ_ret2 (.int .i64 0) (.int .i64 5) (.inr rfl) rfl rfl rfl ?_
   have hq := rc_5 (bs := bs) (show xi = 8 by omega) (by omega)
   exact ⟨by rw [rcV_n (show rcE xi bs ≠ 0 by rw [hq]; decide), hq], hS⟩
  ·refine VL_pure 7 [1, 15, 16] [(1, .pointer (some ⟨b1, 0, none⟩)), (15, .bool false), (16, .pointer (some ⟨b1, 1, none⟩))] (by kernel_rfl) rfl ?_
   refine VL_load (d := 17) (t := 25) (a := ⟨b1, 1, none⟩) (v := .slice (some ⟨sb1, so1, none⟩) n c) (by kernel_rfl) (by kernel_rfl) (Loads.own1 ho1 (by kernel_rfl) (by rfl)) ?_
   refine VL_index (d := 18) (b := sb1) (o := so1) (len := n) (sz := 1) (m := 1) (by kernel_rfl) (by kernel_rfl) 1 (by rfl) (by omega) (so1 + 1) (by omega) ?_
   refine VL_load (d := 19) (t := 5) (a := ⟨sb1, so1 + 1, none⟩) (v := .int .u8 (bs.getD 1 0)) (by kernel_rfl) (by kernel_rfl) (Sl.ldI hA (by kernel_rfl) 1 (by (try simp only [List.length_set, List.length_append, List.length_map, List.length_replicate, List.length_cons, List.length_nil, List.length_take, List.length_drop, List.length_range]) <;> omega)) ?_
   refine VL_pure 12 [1, 21] [(1, .pointer (some ⟨b1, 0, none⟩)), (21, .bool (decide ((bs.getD 1 0) > 127)))] (by kernel_rfl) rfl ?_
   refine VL_end (by kernel_rfl) ?_
   refine VQ_next ?_
   refine VC_dec ((bs.getD 1 0) > 127) (by kernel_rfl) (fun h2 => ?_) (fun h2 => ?_)
   ·refine VC_seq ?_
    refine VC_region ?_
    refine VL_pure 2 [2, 3] [(2, .int .i64 0), (3, .int .i64 5)] (by kernel_rfl) rfl ?_
    refine VL_end (by kernel_rfl) ?_
    refine VQ_next ?_
    refine VC_ret ?_
    refine VQ_then_ret ?_
    refine VQ_ret2 (.int .i64 0) (.int .i64 5) (.inr rfl) rfl rfl rfl ?_
    have hq := rc_5 (bs := bs) (show xi = 8 by omega) (by omega)
    exact ⟨by rw [rcV_n (show rcE xi bs ≠ 0 by rw [hq]; decide), hq], hS⟩
   ·refine VC_skip ?_
    refine VQ_next ?_
    refine VC_seq ?_
    refine VC_region ?_
    refine VL_pure 1 [22] [(22, .pointer (some ⟨b1, 1, none⟩))] (by kernel_rfl) rfl ?_
    refine VL_load (d := 23) (t := 25) (a := ⟨b1, 1, none⟩) (v := .slice (some ⟨sb1, so1, none⟩) n c) (by kernel_rfl) (by kernel_rfl) (Loads.own1 ho1 (by kernel_rfl) (by rfl)) ?_
    refine VL_index (d := 24) (b := sb1) (o := so1) (len := n) (sz := 1) (m := 1) (by kernel_rfl) (by kernel_rfl) 1 (by rfl) (by omega) (so1 + 1) (by omega) ?_
    refine VL_load (d := 25) (t := 5) (a := ⟨sb1, so1 + 1, none⟩) (v := .int .u8 (bs.getD 1 0)) (by kernel_rfl) (by kernel_rfl) (Sl.ldI hA (by kernel_rfl) 1 (by (try simp only [List.length_set, List.length_append, List.length_map, List.length_replicate, List.length_cons, List.length_nil, List.length_take, List.length_drop, List.length_range]) <;> omega)) ?_
    refine VL_pure 7 [2, 3] [(2, .int .i64 (IntKind.wrap .i64 (bs.getD 1 0))), (3, .int .i64 0)] (by kernel_rfl) rfl ?_
    refine VL_end (by kernel_rfl) ?_
    refine VQ_next ?_
    refine VC_ret ?_
    refine VQ_ret2 (.int .i64 (IntKind.wrap .i64 (bs.getD 1 0))) (.int .i64 0) (.inr rfl) rfl rfl rfl ?_
    have hq := rc_0 (bs := bs) (show xi = 8 by omega) (by omega) (by omega) (by omega)
    exact ⟨by rw [rcV_0 hq, hq], hS⟩

set_option maxRecDepth 100000 in
set_option maxHeartbeats 4000000 in
theorem rrdcause_any (xi : Int) (A : Option Addr) (n c Bd : Nat) (bs : List Int) (w : World) (hn : bs.length = n) (hc : n ≤ c) (hA : Sl w Bd A (iL .u8 bs)) (hb : Bytes bs) (hBd : Bd ≤ w.heap.size) :
  CV Try.prog 49 #[.agg #[.int .u8 xi, .slice A n c]] w (fun x w1 => x = .tuple #[.int .i64 (rcV xi bs), .int .i64 (rcE xi bs)] ∧ Step No w w1) := by
 have hS : Step No w w := Step.refl _ _
 refine CV_enter Try.f49 _ 30 [(0, .agg #[.int .u8 xi, .slice A n c])] Try.func49 rfl rfl (by kernel_rfl) rfl ?_
 refine VC_seq ?_
 refine VC_region ?_
 have hzs1 := hS.size
 refine VL_box (d := 1) (t := 60) (c := #[.int .u8 xi, .slice A n c]) (by kernel_rfl) (by kernel_rfl) ?_
 intro b1 w1 hn1
 replace hS := Step.trans hS (hn1.step No)
 replace hA := hA.no (hn1.step No)
 have ho1 := hn1.own
 have hzhn1 := hn1.size
 have hqhn1 := hn1.eqb
 refine VL_pure 3 [1] [(1, .pointer (some ⟨b1, 0, none⟩))] (by kernel_rfl) rfl ?_
 refine VL_end (by kernel_rfl) ?_
 refine VQ_next ?_
 refine VC_seq ?_
 refine VC_seq ?_
 refine VC_region ?_
 refine VL_pure 1 [1, 4] [(1, .pointer (some ⟨b1, 0, none⟩)), (4, .pointer (some ⟨b1, 0, none⟩))] (by kernel_rfl) rfl ?_
 refine VL_load (d := 5) (t := 5) (a := ⟨b1, 0, none⟩) (v := .int .u8 xi) (by kernel_rfl) (by kernel_rfl) (Loads.own1 ho1 (by kernel_rfl) (by rfl)) ?_
 refine VL_pure 3 [1, 6] [(1, .pointer (some ⟨b1, 0, none⟩)), (6, .bool (xi != 8))] (by kernel_rfl) rfl ?_
 refine VL_end (by kernel_rfl) ?_
 refine VQ_next ?_
 refine VC_ne xi 8 (by kernel_rfl) (fun h1 => ?_) (fun h1 => ?_)
 ·refine VC_seq ?_
  refine VC_region ?_
  refine VL_pure 2 [2, 3] [(2, .int .i64 0), (3, .int .i64 12)] (by kernel_rfl) rfl ?_
  refine VL_end (by kernel_rfl) ?_
  refine VQ_next ?_
  refine VC_ret ?_
  refine VQ_then_ret ?_
  refine VQ_ret2 (.int .i64 0) (.int .i64 12) (.inr rfl) rfl rfl rfl ?_
  have hq := rc_12 (bs := bs) (show xi ≠ 8 by assumption)
  exact ⟨by rw [rcV_n (show rcE xi bs ≠ 0 by rw [hq]; decide), hq], hS⟩
 ·refine VC_skip ?_
  refine VQ_next ?_
  refine VC_seq ?_
  refine VC_seq ?_
  refine VC_region ?_
  refine VL_pure 1 [1, 7] [(1, .pointer (some ⟨b1, 0, none⟩)), (7, .pointer (some ⟨b1, 1, none⟩))] (by kernel_rfl) rfl ?_
  refine VL_load (d := 8) (t := 25) (a := ⟨b1, 1, none⟩) (v := .slice A n c) (by kernel_rfl) (by kernel_rfl) (Loads.own1 ho1 (by kernel_rfl) (by rfl)) ?_
  refine VL_pure 5 [1, 11] [(1, .pointer (some ⟨b1, 0, none⟩)), (11, .bool (((n : Nat) : Int) != 2))] (by kernel_rfl) rfl ?_
  refine VL_bne ((n : Nat) : Int) 2 (fun bV => [(1, .pointer (some ⟨b1, 0, none⟩)), (11, .bool bV)]) rfl (fun hg1 => ?_) (fun hg1 => ?_)
  ·refine VL_pure 18 [1, 24] [(1, .pointer (some ⟨b1, 0, none⟩)), (24, .bool true)] (by kernel_rfl) rfl ?_
   refine VL_end (by kernel_rfl) ?_
   refine VQ_next ?_
   refine VC_true (by kernel_rfl) ?_
   refine VC_seq ?_
   refine VC_region ?_
   refine VL_pure 2 [2, 3] [(2, .int .i64 0), (3, .int .i64 5)] (by kernel_rfl) rfl ?_
   refine VL_end (by kernel_rfl) ?_
   refine VQ_next ?_
   refine VC_ret ?_
   refine VQ_then_ret ?_
   refine VQ_ret2 (.int .i64 0) (.int .i64 5) (.inr rfl) rfl rfl rfl ?_
   have hq := rc_5 (bs := bs) (show xi = 8 by omega) (by omega)
   exact ⟨by rw [rcV_n (show rcE xi bs ≠ 0 by rw [hq]; decide), hq], hS⟩
  ·refine VL_pure 6 [1, 11, 12] [(1, .pointer (some ⟨b1, 0, none⟩)), (11, .bool false), (12, .pointer (some ⟨b1, 1, none⟩))] (by kernel_rfl) rfl ?_
   refine VL_load (d := 13) (t := 25) (a := ⟨b1, 1, none⟩) (v := .slice A n c) (by kernel_rfl) (by kernel_rfl) (Loads.own1 ho1 (by kernel_rfl) (by rfl)) ?_
   obtain ⟨sb1, so1, rfl, hlbsb1⟩ := hA.open (by simp only [iL_length]; omega)
   refine VL_index (d := 14) (b := sb1) (o := so1) (len := n) (sz := 1) (m := 0) (by kernel_rfl) (by kernel_rfl) 0 (by rfl) (by omega) so1 (by omega) ?_
   refine VL_load (d := 15) (t := 5) (a := ⟨sb1, so1, none⟩) (v := .int .u8 (bs.getD 0 0)) (by kernel_rfl) (by kernel_rfl) (Sl.ldI hA (by kernel_rfl) 0 (by (try simp only [List.length_set, List.length_append, List.length_map, List.length_replicate, List.length_cons, List.length_nil, List.length_take, List.length_drop, List.length_range]) <;> omega)) ?_
   refine VL_pure 12 [1, 18] [(1, .pointer (some ⟨b1, 0, none⟩)), (18, .bool ((bs.getD 0 0) != 0))] (by kernel_rfl) rfl ?_
   refine VL_bne (bs.getD 0 0) 0 (fun bV => [(1, .pointer (some ⟨b1, 0, none⟩)), (18, .bool bV)]) rfl (fun hg2 => ?_) (fun hg2 => ?_)
   ·refine VL_pure 18 [1, 24] [(1, .pointer (some ⟨b1, 0, none⟩)), (24, .bool true)] (by kernel_rfl) rfl ?_
    refine VL_end (by kernel_rfl) ?_
    refine VQ_next ?_
    refine VC_true (by kernel_rfl) ?_
    refine VC_seq ?_
    refine VC_region ?_
    refine VL_pure 2 [2, 3] [(2, .int .i64 0), (3, .int .i64 5)] (by kernel_rfl) rfl ?_
    refine VL_end (by kernel_rfl) ?_
    refine VQ_next ?_
    refine VC_ret ?_
    refine VQ_then_ret ?_
    refine VQ_ret2 (.int .i64 0) (.int .i64 5) (.inr rfl) rfl rfl rfl ?_
    have hq := rc_5 (bs := bs) (show xi = 8 by omega) (by omega)
    exact ⟨by rw [rcV_n (show rcE xi bs ≠ 0 by rw [hq]; decide), hq], hS⟩
   ·refine VL_pure 13 [1, 18, 19] [(1, .pointer (some ⟨b1, 0, none⟩)), (18, .bool false), (19, .pointer (some ⟨b1, 1, none⟩))] (by kernel_rfl) rfl ?_
    refine VL_load (d := 20) (t := 25) (a := ⟨b1, 1, none⟩) (v := .slice (some ⟨sb1, so1, none⟩) n c) (by kernel_rfl) (by kernel_rfl) (Loads.own1 ho1 (by kernel_rfl) (by rfl)) ?_
    refine VL_index (d := 21) (b := sb1) (o := so1) (len := n) (sz := 1) (m := 1) (by kernel_rfl) (by kernel_rfl) 1 (by rfl) (by omega) (so1 + 1) (by omega) ?_
    refine VL_load (d := 22) (t := 5) (a := ⟨sb1, so1 + 1, none⟩) (v := .int .u8 (bs.getD 1 0)) (by kernel_rfl) (by kernel_rfl) (Sl.ldI hA (by kernel_rfl) 1 (by (try simp only [List.length_set, List.length_append, List.length_map, List.length_replicate, List.length_cons, List.length_nil, List.length_take, List.length_drop, List.length_range]) <;> omega)) ?_
    refine VL_pure 18 [1, 24] [(1, .pointer (some ⟨b1, 0, none⟩)), (24, .bool (decide ((bs.getD 1 0) > 127)))] (by kernel_rfl) rfl ?_
    refine VL_end (by kernel_rfl) ?_
    refine VQ_next ?_
    refine VC_dec ((bs.getD 1 0) > 127) (by kernel_rfl) (fun h2 => ?_) (fun h2 => ?_)
    ·refine VC_seq ?_
     refine VC_region ?_
     refine VL_pure 2 [2, 3] [(2, .int .i64 0), (3, .int .i64 5)] (by kernel_rfl) rfl ?_
     refine VL_end (by kernel_rfl) ?_
     refine VQ_next ?_
     refine VC_ret ?_
     refine VQ_then_ret ?_
     refine VQ_ret2 (.int .i64 0) (.int .i64 5) (.inr rfl) rfl rfl rfl ?_
     have hq := rc_5 (bs := bs) (show xi = 8 by omega) (by omega)
     exact ⟨by rw [rcV_n (show rcE xi bs ≠ 0 by rw [hq]; decide), hq], hS⟩
    ·refine VC_skip ?_
     refine VQ_next ?_
     refine VC_seq ?_
     refine VC_region ?_
     refine VL_pure 1 [25] [(25, .pointer (some ⟨b1, 1, none⟩))] (by kernel_rfl) rfl ?_
     refine VL_load (d := 26) (t := 25) (a := ⟨b1, 1, none⟩) (v := .slice (some ⟨sb1, so1, none⟩) n c) (by kernel_rfl) (by kernel_rfl) (Loads.own1 ho1 (by kernel_rfl) (by rfl)) ?_
     refine VL_index (d := 27) (b := sb1) (o := so1) (len := n) (sz := 1) (m := 1) (by kernel_rfl) (by kernel_rfl) 1 (by rfl) (by omega) (so1 + 1) (by omega) ?_
     refine VL_load (d := 28) (t := 5) (a := ⟨sb1, so1 + 1, none⟩) (v := .int .u8 (bs.getD 1 0)) (by kernel_rfl) (by kernel_rfl) (Sl.ldI hA (by kernel_rfl) 1 (by (try simp only [List.length_set, List.length_append, List.length_map, List.length_replicate, List.length_cons, List.length_nil, List.length_take, List.length_drop, List.length_range]) <;> omega)) ?_
     refine VL_pure 7 [2, 3] [(2, .int .i64 (IntKind.wrap .i64 (bs.getD 1 0))), (3, .int .i64 0)] (by kernel_rfl) rfl ?_
     refine VL_end (by kernel_rfl) ?_
     refine VQ_next ?_
     refine VC_ret ?_
     refine VQ_ret2 (.int .i64 (IntKind.wrap .i64 (bs.getD 1 0))) (.int .i64 0) (.inr rfl) rfl rfl rfl ?_
     have hq := rc_0 (bs := bs) (show xi = 8 by omega) (by omega) (by omega) (by omega)
     exact ⟨by rw [rcV_0 hq, hq], hS⟩

end Go.Proofs.Ytejpcmjokamdcaa
end

section
/- Layer 15: Find, few, Cause, awake. -/
set_option linter.unusedVariables false
set_option linter.unusedSimpArgs false
namespace Go.Proofs.Ytejpcmjokamdcaa
open Go.Vc Go.RowKit

theorem awk_pack : packT [(8, [0, 35])] = [8, 128, 0, 2, 0, 35] := by decide +kernel
theorem awk_packE : packE [(8, [0, 35])] = 0 := by decide +kernel
theorem bytes_c : Bytes [8, 128, 0, 2, 0, 35] := by intro x hx; simp only [List.mem_cons, List.mem_nil_iff, or_false] at hx; omega
theorem awk_un : ieU [] (packT [(8, [0, 35])]) = ([(8, [0, 35])], 0) := by
  rw [show packT [(8, [0, 35])] = packL [(8, [0, 35])] from (packT_yes (by decide +kernel)).1]
  exact (ieU_pack [(8, [0, 35])] [] (by simp) (by intro x hx; simp only [List.mem_cons, List.mem_nil_iff, or_false] at hx; subst hx; simp)).trans (by simp)
theorem awkP {A : Option Addr} : packT (vals [⟨8, A, 2, 2, [0, ((35 : Nat) : Int)]⟩]) = [8, 128, 0, 2, 0, 35] := awk_pack
theorem awkE {A : Option Addr} : packE (vals [⟨8, A, 2, 2, [0, ((35 : Nat) : Int)]⟩]) = 0 := awk_packE
theorem awkUE {A : Option Addr} : ieUE (packT (vals [⟨8, A, 2, 2, [0, ((35 : Nat) : Int)]⟩])) = 0 := congrArg Prod.snd awk_un
theorem awkUL {A : Option Addr} {l : List IeV} (h : vals l = ieUL (packT (vals [⟨8, A, 2, 2, [0, ((35 : Nat) : Int)]⟩]))) : l.length = 1 := by
  rw [← vals_len, h, show ieUL (packT (vals [⟨8, A, 2, 2, [0, ((35 : Nat) : Int)]⟩])) = [(8, [0, 35])] from congrArg Prod.fst awk_un]; rfl
theorem fd1_any (xi : Int) (A : Option Addr) (n c : Nat) (w : World) (b : Nat) (id : Int) (hB : Own w b #[.int .u8 id] 5) :
  CV Try.prog 55 #[.agg #[.int .u8 xi, .slice A n c], .pointer (some ⟨b, 0, none⟩)] w (fun x w1 => x = .bool (xi == id) ∧ Step No w w1) := by
 have hS : Step No w w := Step.refl _ _
 refine CV_enter Try.f55 _ 8 [(0, .agg #[.int .u8 xi, .slice A n c]), (1, .pointer (some ⟨b, 0, none⟩))] Try.func55 rfl rfl (by kernel_rfl) rfl ?_
 refine VC_seq ?_
 refine VC_region ?_
 have hzs1 := hS.size
 have hzl1 := hB.lt
 refine VL_box (d := 2) (t := 60) (c := #[.int .u8 xi, .slice A n c]) (by kernel_rfl) (by kernel_rfl) ?_
 intro b1 w1 hn1
 replace hS := Step.trans hS (hn1.step No)
 replace hB := hB.no (hn1.step No)
 have ho1 := hn1.own
 have hzhn1 := hn1.size
 have hqhn1 := hn1.eqb
 refine VL_pure 2 [1, 2] [(1, .pointer (some ⟨b, 0, none⟩)), (2, .pointer (some ⟨b1, 0, none⟩))] (by kernel_rfl) rfl ?_
 refine VL_end (by kernel_rfl) ?_
 refine VQ_next ?_
 refine VC_seq ?_
 refine VC_region ?_
 refine VL_pure 1 [1, 4] [(1, .pointer (some ⟨b, 0, none⟩)), (4, .pointer (some ⟨b1, 0, none⟩))] (by kernel_rfl) rfl ?_
 refine VL_load (d := 5) (t := 5) (a := ⟨b1, 0, none⟩) (v := .int .u8 xi) (by kernel_rfl) (by kernel_rfl) (Loads.own1 ho1 (by kernel_rfl) (by rfl)) ?_
 refine VL_load (d := 6) (t := 5) (a := ⟨b, 0, none⟩) (v := .int .u8 id) (by kernel_rfl) (by kernel_rfl) (Loads.own1 hB (by kernel_rfl) (by rfl)) ?_
 refine VL_pure 5 [3] [(3, .bool (xi == id))] (by kernel_rfl) rfl ?_
 refine VL_end (by kernel_rfl) ?_
 refine VQ_next ?_
 refine VC_ret ?_
 refine VQ_ret1 (.bool (xi == id)) (.inr rfl) rfl rfl ?_
 exact ⟨rfl, hS⟩

set_option maxRecDepth 100000 in
set_option maxHeartbeats 4000000 in
theorem ieixf_any (A : Option Addr) (n c lo hi : Nat) (l : List IeV) (w : World) (hn : l.length = n) (hA : Ies w lo hi A l) (b : Nat) (id : Int) (hB : Own w b #[.int .u8 id] 5) (hlen : n ≤ 1000000) :
  CV Try.prog 54 #[.slice A n c, .func (.func 55) #[] #[.pointer (some ⟨b, 0, none⟩)]] w (fun v w1 => ((v = .int .i64 (-1) ∧ l.find? (isId id) = none) ∨ ∃ k y, k < n ∧ l[k]? = some y ∧ l.find? (isId id) = some y ∧ v = .int .i64 ((k : Nat) : Int)) ∧ Step No w w1) := by
 have hS : Step No w w := Step.refl _ _
 refine CV_enter Try.f54 _ 19 [(0, .slice A n c), (1, .func (.func 55) #[] #[.pointer (some ⟨b, 0, none⟩)])] Try.func54 rfl rfl (by kernel_rfl) rfl ?_
 refine VC_seq ?_
 refine VC_region ?_
 refine VL_pure 1 [0, 1] [(0, .slice A n c), (1, .func (.func 55) #[] #[.pointer (some ⟨b, 0, none⟩)])] (by kernel_rfl) rfl ?_
 refine VL_end (by kernel_rfl) ?_
 refine VQ_next ?_
 refine VC_seq ?_
 refine VC_seq ?_
 refine VC_region ?_
 refine VL_pure 3 [0, 1, 7, 8] [(0, .slice A n c), (1, .func (.func 55) #[] #[.pointer (some ⟨b, 0, none⟩)]), (7, .int .i64 ((n : Nat) : Int)), (8, .int .i64 0)] (by kernel_rfl) rfl ?_
 refine VL_end (by kernel_rfl) ?_
 refine VQ_next ?_
 refine VC_block ?_
 refine VC_loop (σ := Nat) (fun σs => [(0, .slice A n c), (1, .func (.func 55) #[] #[.pointer (some ⟨b, 0, none⟩)]), (7, .int .i64 ((n : Nat) : Int)), (8, .int .i64 ((σs : Nat) : Int))]) (fun σs w1 => (σs ≤ n) ∧ (∀ i y, i < σs → l[i]? = some y → y.id ≠ id) ∧ (Step No w w1) ∧ (Ies w1 lo hi A l) ∧ (Own w1 b #[.int .u8 id] 5)) (fun σs w1 => n - σs) 0 ⟨rfl, rfl, rfl, rfl, trivial⟩ ?_ ?_
 ·exact ⟨Nat.zero_le _, fun i y hi => absurd hi (Nat.not_lt_zero _), hS, hA, hB⟩
 rintro k w1 ⟨hk, hz, hS, hA, hB⟩
 try dsimp only at hk hz hS hA hB ⊢
 refine VC_seq ?_
 refine VC_region ?_
 refine VL_pure 1 [0, 1, 7, 8, 9] [(0, .slice A n c), (1, .func (.func 55) #[] #[.pointer (some ⟨b, 0, none⟩)]), (7, .int .i64 ((n : Nat) : Int)), (8, .int .i64 ((k : Nat) : Int)), (9, .bool (decide (((k : Nat) : Int) < ((n : Nat) : Int))))] (by kernel_rfl) rfl ?_
 refine VL_end (by kernel_rfl) ?_
 refine VQ_next ?_
 refine VC_seq ?_
 refine VC_dec (((k : Nat) : Int) < ((n : Nat) : Int)) (by kernel_rfl) (fun h1 => ?_) (fun h1 => ?_)
 ·refine VC_skip ?_
  refine VQ_next ?_
  refine VC_seq ?_
  refine VC_block ?_
  refine VC_seq ?_
  refine VC_region ?_
  refine VL_pure 2 [0, 1, 7, 8, 5] [(0, .slice A n c), (1, .func (.func 55) #[] #[.pointer (some ⟨b, 0, none⟩)]), (7, .int .i64 ((n : Nat) : Int)), (8, .int .i64 ((k : Nat) : Int)), (5, .int .i64 ((k : Nat) : Int))] (by kernel_rfl) rfl ?_
  refine VL_end (by kernel_rfl) ?_
  refine VQ_next ?_
  refine VC_seq ?_
  refine VC_region ?_
  refine VL_pure 3 [0, 1, 7, 8, 5, 11, 12, 13] [(0, .slice A n c), (1, .func (.func 55) #[] #[.pointer (some ⟨b, 0, none⟩)]), (7, .int .i64 ((n : Nat) : Int)), (8, .int .i64 ((k : Nat) : Int)), (5, .int .i64 ((k : Nat) : Int)), (11, .func (.func 55) #[] #[.pointer (some ⟨b, 0, none⟩)]), (12, .slice A n c), (13, .int .i64 ((k : Nat) : Int))] (by kernel_rfl) rfl ?_
  obtain ⟨sb1, so1, rfl, hlbsb1⟩ := hA.open (by omega)
  refine VL_index (d := 14) (b := sb1) (o := so1) (len := n) (sz := 2) (m := ((k : Nat) : Int)) (by kernel_rfl) (by kernel_rfl) k (by rfl) (by omega) (so1 + k * 2) (by omega) ?_
  obtain ⟨⟨x1i, x1A, x1n, x1c, x1b⟩, hx1⟩ : ∃ x, l[k]? = some x := ⟨_, List.getElem?_eq_getElem (by omega)⟩
  obtain ⟨hnx1, hcx1, hbx1⟩ := Ies.body hA hx1
  dsimp only at hnx1 hcx1 hbx1
  refine VL_load (d := 15) (t := 60) (a := ⟨sb1, so1 + k * 2, none⟩) (v := .agg #[.int .u8 x1i, .slice x1A x1n x1c]) (by kernel_rfl) (by kernel_rfl) (Ies.ld hA (by kernel_rfl) hx1) ?_
  have hzs1 := hS.size
  have hzl1 := hB.lt
  refine VL_call (d := 16) (f := 55) (args := #[.agg #[.int .u8 x1i, .slice x1A x1n x1c], .pointer (some ⟨b, 0, none⟩)]) (by kernel_rfl) (by kernel_rfl) (by kernel_rfl) Try.call55 (fd1_any x1i x1A x1n x1c _ b id hB) ?_
  rintro _ w2 ⟨rfl, hc1⟩
  replace hS := Step.trans hS hc1
  replace hA := hA.no hc1
  replace hB := hB.no hc1
  replace hbx1 := hbx1.no hc1
  refine VL_end (by kernel_rfl) ?_
  refine VQ_next ?_
  refine VC_eq x1i id (by kernel_rfl) (fun h2 => ?_) (fun h2 => ?_)
  ·refine VC_seq ?_
   refine VC_region ?_
   refine VL_pure 2 [4] [(4, .int .i64 ((k : Nat) : Int))] (by kernel_rfl) rfl ?_
   refine VL_end (by kernel_rfl) ?_
   refine VQ_next ?_
   refine VC_ret ?_
   refine VQ_block_ret ?_
   refine VQ_then_ret ?_
   refine VQ_then_ret ?_
   refine VQ_block_ret ?_
   refine VQ_then_ret ?_
   refine VQ_ret1 (.int .i64 ((k : Nat) : Int)) (.inr rfl) rfl rfl ?_
   exact ⟨.inr ⟨k, _, by omega, hx1, find_yes (by dsimp only; assumption) hx1 hz, rfl⟩, hS⟩
  ·refine VC_skip ?_
   refine VQ_block_normal ?_
   refine VQ_next ?_
   refine VC_region ?_
   refine VL_pure 1 [0, 1, 7, 18] [(0, .slice (some ⟨sb1, so1, none⟩) n c), (1, .func (.func 55) #[] #[.pointer (some ⟨b, 0, none⟩)]), (7, .int .i64 ((n : Nat) : Int)), (18, .int .i64 (IntKind.wrap .i64 (((k : Nat) : Int) + 1)))] (by kernel_rfl) rfl ?_
   have he1 : IntKind.wrap .i64 (((k : Nat) : Int) + 1) = ((k + 1 : Nat) : Int) := (by rw [wrap_i64 _ (by omega) (by omega)]; omega)
   refine VL_eq [(0, .slice (some ⟨sb1, so1, none⟩) n c), (1, .func (.func 55) #[] #[.pointer (some ⟨b, 0, none⟩)]), (7, .int .i64 ((n : Nat) : Int)), (18, .int .i64 ((k + 1 : Nat) : Int))] (by rw [he1]) ?_
   refine VL_pure 2 [0, 1, 7, 8] [(0, .slice (some ⟨sb1, so1, none⟩) n c), (1, .func (.func 55) #[] #[.pointer (some ⟨b, 0, none⟩)]), (7, .int .i64 ((n : Nat) : Int)), (8, .int .i64 ((k + 1 : Nat) : Int))] (by kernel_rfl) rfl ?_
   refine VL_end (by kernel_rfl) ?_
   refine VQ_again (k + 1) ⟨rfl, rfl, rfl, rfl, trivial⟩ ?_ ?_
   ·exact ⟨(by omega), fun i y hi hy => by rcases Nat.lt_succ_iff_lt_or_eq.1 hi with h9 | rfl; exact hz i y h9 hy; rw [hx1] at hy; cases hy; dsimp only; assumption, hS, hA, hB⟩
   ·(try dsimp only); omega
 ·refine VC_exit ?_
  refine VQ_then_exit ?_
  refine VQ_then_exit ?_
  refine VQ_block_hit ?_
  refine VQ_next ?_
  refine VC_seq ?_
  refine VC_region ?_
  refine VL_pure 1 [4] [(4, .int .i64 (-1))] (by kernel_rfl) rfl ?_
  refine VL_end (by kernel_rfl) ?_
  refine VQ_next ?_
  refine VC_ret ?_
  refine VQ_ret1 (.int .i64 (-1)) (.inr rfl) rfl rfl ?_
  exact ⟨.inl ⟨rfl, find_no hn (fun i y hi hy => hz i y (by omega) hy)⟩, hS⟩

set_option maxRecDepth 100000 in
set_option maxHeartbeats 4000000 in
theorem find_any (A : Option Addr) (n c lo hi : Nat) (l : List IeV) (w : World) (hn : l.length = n) (hA : Ies w lo hi A l) (id : Int) (hlen : n ≤ 1000000) (hhi : hi ≤ w.heap.size) :
  CV Try.prog 36 #[.slice A n c, .int .u8 id] w (fun x w1 => FindR w w1 x l id) := by
 have hS : Step No w w := Step.refl _ _
 refine CV_enter Try.f36 _ 17 [(0, .slice A n c), (1, .int .u8 id)] Try.func36 rfl rfl (by kernel_rfl) rfl ?_
 refine VC_seq ?_
 refine VC_region ?_
 have hzs1 := hS.size
 refine VL_box (d := 3) (t := 5) (c := #[.int .u8 id]) (by kernel_rfl) (by kernel_rfl) ?_
 intro b1 w1 hn1
 replace hS := Step.trans hS (hn1.step No)
 replace hA := hA.no (hn1.step No)
 have ho1 := hn1.own
 have hzhn1 := hn1.size
 have hqhn1 := hn1.eqb
 have hzs2 := hS.size
 have hzl1 := ho1.lt
 refine VL_box (d := 4) (t := 60) (c := #[.int .u8 0, .slice none 0 0]) (by kernel_rfl) (by kernel_rfl) ?_
 intro b2 w2 hn2
 replace hS := Step.trans hS (hn2.step No)
 replace hA := hA.no (hn2.step No)
 replace ho1 := ho1.no (hn2.step No)
 have ho2 := hn2.own
 have hzhn2 := hn2.size
 have hqhn2 := hn2.eqb
 refine VL_pure 3 [0, 3, 4] [(0, .slice A n c), (3, .pointer (some ⟨b1, 0, none⟩)), (4, .pointer (some ⟨b2, 0, none⟩))] (by kernel_rfl) rfl ?_
 refine VL_end (by kernel_rfl) ?_
 refine VQ_next ?_
 refine VC_seq ?_
 refine VC_region ?_
 refine VL_pure 2 [0, 4, 7, 8] [(0, .slice A n c), (4, .pointer (some ⟨b2, 0, none⟩)), (7, .slice A n c), (8, .func (.func 55) #[] #[.pointer (some ⟨b1, 0, none⟩)])] (by kernel_rfl) rfl ?_
 have hzs3 := hS.size
 have hzl2 := ho1.lt
 have hzl3 := ho2.lt
 refine VL_call (d := 9) (f := 54) (args := #[.slice A n c, .func (.func 55) #[] #[.pointer (some ⟨b1, 0, none⟩)]]) (by kernel_rfl) (by kernel_rfl) (by kernel_rfl) Try.call54 (ieixf_any A n c lo hi l _ hn hA b1 id ho1 (by omega)) ?_
 rintro _ w3 ⟨(⟨rfl, hz⟩ | ⟨k, y, hk1, hk2, hk3, rfl⟩), hc1⟩
 ·replace hS := Step.trans hS hc1
  replace hA := hA.no hc1
  replace ho1 := ho1.no hc1
  replace ho2 := ho2.no hc1
  refine VL_pure 4 [0, 4, 6] [(0, .slice A n c), (4, .pointer (some ⟨b2, 0, none⟩)), (6, .int .i64 (-1))] (by kernel_rfl) rfl ?_
  refine VL_end (by kernel_rfl) ?_
  refine VQ_next ?_
  refine VC_seq ?_
  refine VC_seq ?_
  refine VC_region ?_
  refine VL_pure 2 [0, 4, 6, 11] [(0, .slice A n c), (4, .pointer (some ⟨b2, 0, none⟩)), (6, .int .i64 (-1)), (11, .bool true)] (by kernel_rfl) rfl ?_
  refine VL_end (by kernel_rfl) ?_
  refine VQ_next ?_
  refine VC_true (by kernel_rfl) ?_
  refine VC_seq ?_
  refine VC_region ?_
  refine VL_pure 1 [4, 12] [(4, .pointer (some ⟨b2, 0, none⟩)), (12, .agg #[.int .u8 0, .slice none 0 0])] (by kernel_rfl) rfl ?_
  refine VL_store (b := b2) (o := 0) (vs := [.int .u8 0, .slice none 0 0]) (by kernel_rfl) (by kernel_rfl) ho2 (Nat.le_of_ble_eq_true (by kernel_rfl)) ?_
  intro w4 hw1
  replace hS := Step.transNew hS hw1.step (fun _ _ _ => by omega)
  replace hA := hA.step hw1.step (fun k hk1 hk2 (hF : k = b2) => by omega)
  replace ho1 := ho1.step hw1.step (show ¬ b1 = b2 by omega)
  have ho3 : Own w4 b2 #[.int .u8 0, .slice none 0 0] 60 := Own.cast hw1.own (by kernel_rfl)
  have hzhw1 := hw1.same
  refine VL_pure 3 [4, 5] [(4, .pointer (some ⟨b2, 0, none⟩)), (5, .bool false)] (by kernel_rfl) rfl ?_
  refine VL_end (by kernel_rfl) ?_
  refine VQ_next ?_
  refine VC_ret ?_
  refine VQ_then_ret ?_
  refine VQ_retC1T1 (T := 60) (.agg #[.int .u8 0, .slice none 0 0]) (.bool false) (.inr rfl) rfl rfl rfl (Loads.ownL ho3 (n := 2) (by kernel_rfl) (by kernel_rfl) (by kernel_rfl)) ?_
  first | exact ⟨.inl ⟨by assumption, rfl⟩, hS⟩ | (exfalso; omega)
 ·replace hS := Step.trans hS hc1
  replace hA := hA.no hc1
  replace ho1 := ho1.no hc1
  replace ho2 := ho2.no hc1
  refine VL_pure 4 [0, 4, 6] [(0, .slice A n c), (4, .pointer (some ⟨b2, 0, none⟩)), (6, .int .i64 ((k : Nat) : Int))] (by kernel_rfl) rfl ?_
  refine VL_end (by kernel_rfl) ?_
  refine VQ_next ?_
  refine VC_seq ?_
  refine VC_seq ?_
  refine VC_region ?_
  refine VL_pure 2 [0, 4, 6, 11] [(0, .slice A n c), (4, .pointer (some ⟨b2, 0, none⟩)), (6, .int .i64 ((k : Nat) : Int)), (11, .bool (decide (((k : Nat) : Int) < 0)))] (by kernel_rfl) rfl ?_
  refine VL_end (by kernel_rfl) ?_
  refine VQ_next ?_
  refine VC_dec (((k : Nat) : Int) < 0) (by kernel_rfl) (fun h1 => ?_) (fun h1 => ?_)
  ·refine VC_seq ?_
   refine VC_region ?_
   refine VL_pure 1 [4, 12] [(4, .pointer (some ⟨b2, 0, none⟩)), (12, .agg #[.int .u8 0, .slice none 0 0])] (by kernel_rfl) rfl ?_
   refine VL_store (b := b2) (o := 0) (vs := [.int .u8 0, .slice none 0 0]) (by kernel_rfl) (by kernel_rfl) ho2 (Nat.le_of_ble_eq_true (by kernel_rfl)) ?_
   intro w5 hw2
   replace hS := Step.transNew hS hw2.step (fun _ _ _ => by omega)
   replace hA := hA.step hw2.step (fun k hk1 hk2 (hF : k = b2) => by omega)
   replace ho1 := ho1.step hw2.step (show ¬ b1 = b2 by omega)
   have ho4 : Own w5 b2 #[.int .u8 0, .slice none 0 0] 60 := Own.cast hw2.own (by kernel_rfl)
   have hzhw2 := hw2.same
   refine VL_pure 3 [4, 5] [(4, .pointer (some ⟨b2, 0, none⟩)), (5, .bool false)] (by kernel_rfl) rfl ?_
   refine VL_end (by kernel_rfl) ?_
   refine VQ_next ?_
   refine VC_ret ?_
   refine VQ_then_ret ?_
   refine VQ_retC1T1 (T := 60) (.agg #[.int .u8 0, .slice none 0 0]) (.bool false) (.inr rfl) rfl rfl rfl (Loads.ownL ho4 (n := 2) (by kernel_rfl) (by kernel_rfl) (by kernel_rfl)) ?_
   first | exact ⟨.inl ⟨by assumption, rfl⟩, hS⟩ | (exfalso; omega)
  ·refine VC_skip ?_
   refine VQ_next ?_
   refine VC_seq ?_
   refine VC_region ?_
   refine VL_pure 2 [4, 13, 14] [(4, .pointer (some ⟨b2, 0, none⟩)), (13, .slice A n c), (14, .int .i64 ((k : Nat) : Int))] (by kernel_rfl) rfl ?_
   obtain ⟨sb1, so1, rfl, hlbsb1⟩ := hA.open (by omega)
   refine VL_index (d := 15) (b := sb1) (o := so1) (len := n) (sz := 2) (m := ((k : Nat) : Int)) (by kernel_rfl) (by kernel_rfl) k (by rfl) (by omega) (so1 + k * 2) (by omega) ?_
   obtain ⟨⟨x1i, x1A, x1n, x1c, x1b⟩, hx1⟩ : ∃ x, l[k]? = some x := ⟨_, List.getElem?_eq_getElem (by omega)⟩
   obtain ⟨hnx1, hcx1, hbx1⟩ := Ies.body hA hx1
   dsimp only at hnx1 hcx1 hbx1
   refine VL_load (d := 16) (t := 60) (a := ⟨sb1, so1 + k * 2, none⟩) (v := .agg #[.int .u8 x1i, .slice x1A x1n x1c]) (by kernel_rfl) (by kernel_rfl) (Ies.ld hA (by kernel_rfl) hx1) ?_
   refine VL_store (b := b2) (o := 0) (vs := [.int .u8 x1i, .slice x1A x1n x1c]) (by kernel_rfl) (by kernel_rfl) ho2 (Nat.le_of_ble_eq_true (by kernel_rfl)) ?_
   intro w6 hw3
   replace hS := Step.transNew hS hw3.step (fun _ _ _ => by omega)
   replace hA := hA.step hw3.step (fun k hk1 hk2 (hF : k = b2) => by omega)
   replace ho1 := ho1.step hw3.step (show ¬ b1 = b2 by omega)
   replace hbx1 := hbx1.step hw3.step (fun k hk (hF : k = b2) => by omega)
   have ho5 : Own w6 b2 #[.int .u8 x1i, .slice x1A x1n x1c] 60 := Own.cast hw3.own (by kernel_rfl)
   have hzhw3 := hw3.same
   refine VL_pure 6 [4, 5] [(4, .pointer (some ⟨b2, 0, none⟩)), (5, .bool true)] (by kernel_rfl) rfl ?_
   refine VL_end (by kernel_rfl) ?_
   refine VQ_next ?_
   refine VC_ret ?_
   refine VQ_retC1T1 (T := 60) (.agg #[.int .u8 x1i, .slice x1A x1n x1c]) (.bool true) (.inr rfl) rfl rfl rfl (Loads.ownL ho5 (n := 2) (by kernel_rfl) (by kernel_rfl) (by kernel_rfl)) ?_
   rw [hk2] at hx1
   cases hx1
   exact ⟨.inr ⟨_, hk3, rfl⟩, hS⟩

set_option maxRecDepth 100000 in
set_option maxHeartbeats 4000000 in
theorem cause_yes (m : Nat) (w : World) (hm : m ≤ 127) :
  CV Try.prog 35 #[.int .i64 ((m : Nat) : Int)] w (fun x w1 => ∃ A, x = .tuple #[.agg #[.int .u8 8, .slice A 2 2], .int .i64 0] ∧ Rw w1 w.heap.size 5 A 2 2 (iL .u8 [0, ((m : Nat) : Int)]) ∧ Step No w w1) := by
 have hS : Step No w w := Step.refl _ _
 refine CV_enter Try.f35 _ 15 [(0, .int .i64 ((m : Nat) : Int))] Try.func35 rfl rfl (by kernel_rfl) rfl ?_
 refine VC_seq ?_
 refine VC_region ?_
 have hzs1 := hS.size
 refine VL_box (d := 2) (t := 60) (c := #[.int .u8 0, .slice none 0 0]) (by kernel_rfl) (by kernel_rfl) ?_
 intro b1 w1 hn1
 replace hS := Step.trans hS (hn1.step No)
 have ho1 := hn1.own
 have hzhn1 := hn1.size
 have hqhn1 := hn1.eqb
 refine VL_pure 2 [0, 2] [(0, .int .i64 ((m : Nat) : Int)), (2, .pointer (some ⟨b1, 0, none⟩))] (by kernel_rfl) rfl ?_
 refine VL_end (by kernel_rfl) ?_
 refine VQ_next ?_
 refine VC_seq ?_
 refine VC_seq ?_
 refine VC_region ?_
 refine VL_pure 3 [0, 2, 6] [(0, .int .i64 ((m : Nat) : Int)), (2, .pointer (some ⟨b1, 0, none⟩)), (6, .bool (decide (((m : Nat) : Int) < 0)))] (by kernel_rfl) rfl ?_
 refine VL_known (decide (((m : Nat) : Int) < 0)) (fun bV => [(0, .int .i64 ((m : Nat) : Int)), (2, .pointer (some ⟨b1, 0, none⟩)), (6, .bool bV)]) false rfl (by simp only [decide_eq_false_iff_not]; omega) ?_
 refine VL_pure 6 [0, 2, 9] [(0, .int .i64 ((m : Nat) : Int)), (2, .pointer (some ⟨b1, 0, none⟩)), (9, .bool (decide (((m : Nat) : Int) > 127)))] (by kernel_rfl) rfl ?_
 refine VL_end (by kernel_rfl) ?_
 refine VQ_next ?_
 refine VC_is (b := decide (((m : Nat) : Int) > 127)) false (by kernel_rfl) (by simp only [decide_eq_false_iff_not]; omega) ?_
 refine VC_ite_false ?_
 refine VC_skip ?_
 refine VQ_next ?_
 refine VC_seq ?_
 refine VC_region ?_
 refine VL_pure 2 [2, 12] [(2, .pointer (some ⟨b1, 0, none⟩)), (12, .int .u8 (IntKind.wrap .u8 ((m : Nat) : Int)))] (by kernel_rfl) rfl ?_
 have hzs2 := hS.size
 have hzl1 := ho1.lt
 refine VL_bs (d := 13) (e := 5) (c := #[.int .u8 0, .int .u8 (IntKind.wrap .u8 ((m : Nat) : Int))]) (len := 2) (by kernel_rfl) (by kernel_rfl) ?_
 intro b2 w2 hn2
 replace hS := Step.trans hS (hn2.step No)
 replace ho1 := ho1.no (hn2.step No)
 have ho2 := hn2.own
 have hzhn2 := hn2.size
 have hqhn2 := hn2.eqb
 refine VL_pure 4 [2, 14] [(2, .pointer (some ⟨b1, 0, none⟩)), (14, .agg #[.int .u8 8, .slice (some ⟨b2, 0, none⟩) 2 2])] (by kernel_rfl) rfl ?_
 refine VL_store (b := b1) (o := 0) (vs := [.int .u8 8, .slice (some ⟨b2, 0, none⟩) 2 2]) (by kernel_rfl) (by kernel_rfl) ho1 (Nat.le_of_ble_eq_true (by kernel_rfl)) ?_
 intro w3 hw1
 replace hS := Step.transNew hS hw1.step (fun _ _ _ => by omega)
 replace ho2 := ho2.step hw1.step (show ¬ b2 = b1 by omega)
 have ho3 : Own w3 b1 #[.int .u8 8, .slice (some ⟨b2, 0, none⟩) 2 2] 60 := Own.cast hw1.own (by kernel_rfl)
 have hzhw1 := hw1.same
 refine VL_pure 6 [2, 3] [(2, .pointer (some ⟨b1, 0, none⟩)), (3, .int .i64 0)] (by kernel_rfl) rfl ?_
 refine VL_end (by kernel_rfl) ?_
 refine VQ_next ?_
 refine VC_ret ?_
 refine VQ_retC1T1 (T := 60) (.agg #[.int .u8 8, .slice (some ⟨b2, 0, none⟩) 2 2]) (.int .i64 0) (.inr rfl) rfl rfl rfl (Loads.ownL ho3 (n := 2) (by kernel_rfl) (by kernel_rfl) (by kernel_rfl)) ?_
 have hw : IntKind.wrap .u8 ((m : Nat) : Int) = ((m : Nat) : Int) := by rw [wrap_u8, Nat.mod_eq_of_lt (by omega)]
 have ho9 := Own.cast (c' := #[.int .u8 0, .int .u8 ((m : Nat) : Int)]) ho2 (by rw [hw])
 exact ⟨_, rfl, Rw.of_new ho9 (by omega) (by simp [maxLen]), hS⟩

set_option maxRecDepth 100000 in
set_option maxHeartbeats 4000000 in
theorem cause_neg (m : Int) (w : World) (hm : m < 0) :
  CV Try.prog 35 #[.int .i64 m] w (fun x w1 => x = .tuple #[.agg #[.int .u8 0, .slice none 0 0], .int .i64 1] ∧ Step No w w1) := by
 have hS : Step No w w := Step.refl _ _
 refine CV_enter Try.f35 _ 15 [(0, .int .i64 m)] Try.func35 rfl rfl (by kernel_rfl) rfl ?_
 refine VC_seq ?_
 refine VC_region ?_
 have hzs1 := hS.size
 refine VL_box (d := 2) (t := 60) (c := #[.int .u8 0, .slice none 0 0]) (by kernel_rfl) (by kernel_rfl) ?_
 intro b1 w1 hn1
 replace hS := Step.trans hS (hn1.step No)
 have ho1 := hn1.own
 have hzhn1 := hn1.size
 have hqhn1 := hn1.eqb
 refine VL_pure 2 [0, 2] [(0, .int .i64 m), (2, .pointer (some ⟨b1, 0, none⟩))] (by kernel_rfl) rfl ?_
 refine VL_end (by kernel_rfl) ?_
 refine VQ_next ?_
 refine VC_seq ?_
 refine VC_seq ?_
 refine VC_region ?_
 refine VL_pure 3 [0, 2, 6] [(0, .int .i64 m), (2, .pointer (some ⟨b1, 0, none⟩)), (6, .bool (decide (m < 0)))] (by kernel_rfl) rfl ?_
 refine VL_known (decide (m < 0)) (fun bV => [(0, .int .i64 m), (2, .pointer (some ⟨b1, 0, none⟩)), (6, .bool bV)]) true rfl (by simp; omega) ?_
 refine VL_pure 6 [0, 2, 9] [(0, .int .i64 m), (2, .pointer (some ⟨b1, 0, none⟩)), (9, .bool true)] (by kernel_rfl) rfl ?_
 refine VL_end (by kernel_rfl) ?_
 refine VQ_next ?_
 refine VC_true (by kernel_rfl) ?_
 refine VC_seq ?_
 refine VC_region ?_
 refine VL_pure 1 [2, 10] [(2, .pointer (some ⟨b1, 0, none⟩)), (10, .agg #[.int .u8 0, .slice none 0 0])] (by kernel_rfl) rfl ?_
 refine VL_store (b := b1) (o := 0) (vs := [.int .u8 0, .slice none 0 0]) (by kernel_rfl) (by kernel_rfl) ho1 (Nat.le_of_ble_eq_true (by kernel_rfl)) ?_
 intro w2 hw1
 replace hS := Step.transNew hS hw1.step (fun _ _ _ => by omega)
 have ho2 : Own w2 b1 #[.int .u8 0, .slice none 0 0] 60 := Own.cast hw1.own (by kernel_rfl)
 have hzhw1 := hw1.same
 refine VL_pure 3 [2, 3] [(2, .pointer (some ⟨b1, 0, none⟩)), (3, .int .i64 1)] (by kernel_rfl) rfl ?_
 refine VL_end (by kernel_rfl) ?_
 refine VQ_next ?_
 refine VC_ret ?_
 refine VQ_then_ret ?_
 refine VQ_retC1T1 (T := 60) (.agg #[.int .u8 0, .slice none 0 0]) (.int .i64 1) (.inr rfl) rfl rfl rfl (Loads.ownL ho2 (n := 2) (by kernel_rfl) (by kernel_rfl) (by kernel_rfl)) ?_
 exact ⟨rfl, hS⟩

set_option maxRecDepth 100000 in
set_option maxHeartbeats 4000000 in
theorem cause_big (m : Int) (w : World) (hm : 127 < m) :
  CV Try.prog 35 #[.int .i64 m] w (fun x w1 => x = .tuple #[.agg #[.int .u8 0, .slice none 0 0], .int .i64 1] ∧ Step No w w1) := by
 have hS : Step No w w := Step.refl _ _
 refine CV_enter Try.f35 _ 15 [(0, .int .i64 m)] Try.func35 rfl rfl (by kernel_rfl) rfl ?_
 refine VC_seq ?_
 refine VC_region ?_
 have hzs1 := hS.size
 refine VL_box (d := 2) (t := 60) (c := #[.int .u8 0, .slice none 0 0]) (by kernel_rfl) (by kernel_rfl) ?_
 intro b1 w1 hn1
 replace hS := Step.trans hS (hn1.step No)
 have ho1 := hn1.own
 have hzhn1 := hn1.size
 have hqhn1 := hn1.eqb
 refine VL_pure 2 [0, 2] [(0, .int .i64 m), (2, .pointer (some ⟨b1, 0, none⟩))] (by kernel_rfl) rfl ?_
 refine VL_end (by kernel_rfl) ?_
 refine VQ_next ?_
 refine VC_seq ?_
 refine VC_seq ?_
 refine VC_region ?_
 refine VL_pure 3 [0, 2, 6] [(0, .int .i64 m), (2, .pointer (some ⟨b1, 0, none⟩)), (6, .bool (decide (m < 0)))] (by kernel_rfl) rfl ?_
 refine VL_known (decide (m < 0)) (fun bV => [(0, .int .i64 m), (2, .pointer (some ⟨b1, 0, none⟩)), (6, .bool bV)]) false rfl (by simp; omega) ?_
 refine VL_pure 6 [0, 2, 9] [(0, .int .i64 m), (2, .pointer (some ⟨b1, 0, none⟩)), (9, .bool (decide (m > 127)))] (by kernel_rfl) rfl ?_
 refine VL_end (by kernel_rfl) ?_
 refine VQ_next ?_
 refine VC_is (b := decide (m > 127)) true (by kernel_rfl) (by simp; omega) ?_
 refine VC_ite_true ?_
 refine VC_seq ?_
 refine VC_region ?_
 refine VL_pure 1 [2, 10] [(2, .pointer (some ⟨b1, 0, none⟩)), (10, .agg #[.int .u8 0, .slice none 0 0])] (by kernel_rfl) rfl ?_
 refine VL_store (b := b1) (o := 0) (vs := [.int .u8 0, .slice none 0 0]) (by kernel_rfl) (by kernel_rfl) ho1 (Nat.le_of_ble_eq_true (by kernel_rfl)) ?_
 intro w2 hw1
 replace hS := Step.transNew hS hw1.step (fun _ _ _ => by omega)
 have ho2 : Own w2 b1 #[.int .u8 0, .slice none 0 0] 60 := Own.cast hw1.own (by kernel_rfl)
 have hzhw1 := hw1.same
 refine VL_pure 3 [2, 3] [(2, .pointer (some ⟨b1, 0, none⟩)), (3, .int .i64 1)] (by kernel_rfl) rfl ?_
 refine VL_end (by kernel_rfl) ?_
 refine VQ_next ?_
 refine VC_ret ?_
 refine VQ_then_ret ?_
 refine VQ_retC1T1 (T := 60) (.agg #[.int .u8 0, .slice none 0 0]) (.int .i64 1) (.inr rfl) rfl rfl rfl (Loads.ownL ho2 (n := 2) (by kernel_rfl) (by kernel_rfl) (by kernel_rfl)) ?_
 exact ⟨rfl, hS⟩

end Go.Proofs.Ytejpcmjokamdcaa
end
