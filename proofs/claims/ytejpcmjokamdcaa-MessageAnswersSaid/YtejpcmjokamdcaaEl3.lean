/- Layer 15: Unpack, both; Same, Find. -/
import Derived.Test.YtejpcmjokamdcaaProg
import Derived.Test.YtejpcmjokamdcaaEl2
set_option linter.unusedVariables false
set_option linter.unusedSimpArgs false
namespace Go.Proofs.Ytejpcmjokamdcaa
open Go.Vc Go.RowKit

set_option maxRecDepth 100000 in
set_option maxHeartbeats 4000000 in
theorem same15_any (A : Option Addr) (n c lo hi : Nat) (l : List IeV) (w : World) (hn : l.length = n) (hA : Ies w lo hi A l) (A' : Option Addr) (n' c' lo' hi' : Nat) (l' : List IeV) (hn' : l'.length = n') (hA' : Ies w lo' hi' A' l') (hlen : n ≤ 1000000) (hl1 : ∀ x ∈ l, x.n < 1000000) (hl2 : ∀ x ∈ l', x.n < 1000000) (hhi : hi ≤ w.heap.size) (hhi' : hi' ≤ w.heap.size) :
  CV Try.prog 34 #[.slice A n c, .slice A' n' c'] w (fun x w1 => x = .bool (vals l == vals l') ∧ Step No w w1) := by
 have hS : Step No w w := Step.refl _ _
 refine CV_enter Try.f34 _ 42 [(0, .slice A n c), (1, .slice A' n' c')] Try.func34 rfl rfl (by kernel_rfl) rfl ?_
 refine VC_seq ?_
 refine VC_region ?_
 refine VL_pure 1 [0, 1] [(0, .slice A n c), (1, .slice A' n' c')] (by kernel_rfl) rfl ?_
 refine VL_end (by kernel_rfl) ?_
 refine VQ_next ?_
 refine VC_seq ?_
 refine VC_seq ?_
 refine VC_region ?_
 refine VL_pure 5 [0, 1, 10] [(0, .slice A n c), (1, .slice A' n' c'), (10, .bool (((n : Nat) : Int) != ((n' : Nat) : Int)))] (by kernel_rfl) rfl ?_
 refine VL_end (by kernel_rfl) ?_
 refine VQ_next ?_
 refine VC_ne ((n : Nat) : Int) ((n' : Nat) : Int) (by kernel_rfl) (fun h1 => ?_) (fun h1 => ?_)
 ·refine VC_seq ?_
  refine VC_region ?_
  refine VL_pure 1 [4] [(4, .bool false)] (by kernel_rfl) rfl ?_
  refine VL_end (by kernel_rfl) ?_
  refine VQ_next ?_
  refine VC_ret ?_
  refine VQ_then_ret ?_
  refine VQ_ret1 (.bool false) (.inr rfl) rfl rfl ?_
  first | exact ⟨congrArg Value.bool (Eq.symm (vals_nel hn hn' (by omega))), hS⟩ | exact ⟨congrArg Value.bool (Eq.symm (vals_ne hx1 hx2 (by simp_all))), hS⟩
 ·refine VC_skip ?_
  refine VQ_next ?_
  refine VC_seq ?_
  refine VC_seq ?_
  refine VC_region ?_
  refine VL_pure 3 [0, 1, 12, 13] [(0, .slice A n c), (1, .slice A' n' c'), (12, .int .i64 ((n : Nat) : Int)), (13, .int .i64 0)] (by kernel_rfl) rfl ?_
  refine VL_end (by kernel_rfl) ?_
  refine VQ_next ?_
  refine VC_block ?_
  refine VC_loop (σ := Nat) (fun σs => [(0, .slice A n c), (1, .slice A' n' c'), (12, .int .i64 ((n : Nat) : Int)), (13, .int .i64 ((σs : Nat) : Int))]) (fun σs w1 => (σs ≤ n) ∧ (∀ j x y, j < σs → l[j]? = some x → l'[j]? = some y → x.id = y.id ∧ x.bs = y.bs) ∧ (Step No w w1) ∧ (Ies w1 lo hi A l) ∧ (Ies w1 lo' hi' A' l')) (fun σs w1 => n - σs) 0 ⟨rfl, rfl, rfl, rfl, trivial⟩ ?_ ?_
  ·exact ⟨Nat.zero_le _, fun i x y hi => absurd hi (Nat.not_lt_zero _), hS, hA, hA'⟩
  rintro i w1 ⟨hi, hz, hS, hA, hA'⟩
  try dsimp only at hi hz hS hA hA' ⊢
  refine VC_seq ?_
  refine VC_region ?_
  refine VL_pure 1 [0, 1, 12, 13, 14] [(0, .slice A n c), (1, .slice A' n' c'), (12, .int .i64 ((n : Nat) : Int)), (13, .int .i64 ((i : Nat) : Int)), (14, .bool (decide (((i : Nat) : Int) < ((n : Nat) : Int))))] (by kernel_rfl) rfl ?_
  refine VL_end (by kernel_rfl) ?_
  refine VQ_next ?_
  refine VC_seq ?_
  refine VC_dec (((i : Nat) : Int) < ((n : Nat) : Int)) (by kernel_rfl) (fun h2 => ?_) (fun h2 => ?_)
  ·refine VC_skip ?_
   refine VQ_next ?_
   refine VC_seq ?_
   refine VC_block ?_
   refine VC_seq ?_
   refine VC_region ?_
   refine VL_pure 2 [0, 1, 12, 13, 5] [(0, .slice A n c), (1, .slice A' n' c'), (12, .int .i64 ((n : Nat) : Int)), (13, .int .i64 ((i : Nat) : Int)), (5, .int .i64 ((i : Nat) : Int))] (by kernel_rfl) rfl ?_
   refine VL_end (by kernel_rfl) ?_
   refine VQ_next ?_
   refine VC_seq ?_
   obtain ⟨sb1, so1, rfl, hlbsb1⟩ := hA.open (by omega)
   obtain ⟨sb2, so2, rfl, hlbsb2⟩ := hA'.open (by omega)
   have hs1 := drew_step w1
   have hs1z : w1.heap.size = w1.drew.heap.size := rfl
   refine VC_text [[], [], [0, 1], [0, 1, 2], [0, 1, 2, 3], [], [], [5, 6], [5, 6, 7], [5, 6, 7, 8], [0, 1, 2, 3, 4, 5, 6, 7, 8, 9], [0, 1, 2, 3, 4, 5, 6, 7, 8, 9, 10], [0, 1, 2, 3, 4, 5, 6, 7, 8, 9, 10, 11], [0, 1, 2, 3, 4, 5, 6, 7, 8, 9, 10, 11], [0, 1, 2, 3, 4, 5, 6, 7, 8, 9, 10, 11, 12, 13], [0, 1, 2, 3, 4, 5, 6, 7, 8, 9, 10, 11, 12, 13, 14], [0, 1, 2, 3, 4, 5, 6, 7, 8, 9, 10, 11, 12, 13, 14, 15], [0, 1, 2, 3, 4, 5, 6, 7, 8, 9, 10, 11], [0, 1, 2, 3, 4, 5, 6, 7, 8, 9, 10, 11], [0, 1, 2, 3, 4, 5, 6, 7, 8, 9, 10, 11, 17, 18], [0, 1, 2, 3, 4, 5, 6, 7, 8, 9, 10, 11, 17, 18, 19], [0, 1, 2, 3, 4, 5, 6, 7, 8, 9, 10, 11, 17, 18, 19, 20], [0, 1, 2, 3, 4, 5, 6, 7, 8, 9, 10, 11, 12, 13, 14, 15, 16, 17, 18, 19, 20, 21], [0, 1, 2, 3, 4, 5, 6, 7, 8, 9, 10, 11, 12, 13, 14, 15, 16, 17, 18, 19, 20, 21, 22], [0, 1, 2, 3, 4, 5, 6, 7, 8, 9, 10, 11, 12, 13, 14, 15, 16, 17, 18, 19, 20, 21, 22, 23]] 22 (fun x y => Step (fun k => w1.heap.size ≤ k) x y) [] [0, 1, 2, 3, 4, 5, 6, 7, 8, 9, 10, 11, 12, 13, 14, 15, 16, 17, 18, 19, 20, 21] (by kernel_rfl) (by kernel_rfl) (by kernel_rfl) (by kernel_rfl) (fun x => Step.refl _ x) (fun h k => Step.trans h k) Step.weak ?_
   have hzs1 := hS.size
   generalize w1.drew = w2 at hs1 hs1z ⊢
   replace hS := Step.trans hS hs1
   replace hA := hA.no hs1
   replace hA' := hA'.no hs1
   refine VT_pures 2 (kn' := [(1, .int .i64 ((i : Nat) : Int)), (0, .slice (some ⟨sb1, so1, none⟩) n c)]) (by kernel_rfl) ?_
   refine VT_index (d := 18) (b := sb1) (o := so1) (len := n) (sz := 2) (mm := ((i : Nat) : Int)) (by kernel_rfl) (by kernel_rfl) i (by rfl) (by omega) (so1 + i * 2) (by omega) ?_
   refine VT_pures 1 (kn' := [(3, .pointer (some ⟨sb1, so1 + i * 2, none⟩)), (2, .pointer (some ⟨sb1, so1 + i * 2, none⟩)), (1, .int .i64 ((i : Nat) : Int)), (0, .slice (some ⟨sb1, so1, none⟩) n c)]) (by kernel_rfl) ?_
   obtain ⟨⟨x1i, x1A, x1n, x1c, x1b⟩, hx1⟩ : ∃ x, l[i]? = some x := ⟨_, List.getElem?_eq_getElem (by omega)⟩
   obtain ⟨hnx1, hcx1, hbx1⟩ := Ies.body hA hx1
   dsimp only at hnx1 hcx1 hbx1
   refine VT_load (d := 20) (t := 5) (a := ⟨sb1, so1 + i * 2, none⟩) (v := .int .u8 x1i) (by kernel_rfl) (by kernel_rfl) ?_ ?_
   ·intro w3 hr1
    replace hS := Step.transNew hS hr1 (fun i hi hG => by (try simp only at hG); omega)
    replace hA := hA.step hr1 (fun k hk1 hk2 hG => by (try simp only at hG); omega)
    replace hA' := hA'.step hr1 (fun k hk1 hk2 hG => by (try simp only at hG); omega)
    replace hbx1 := hbx1.step hr1 (fun k hk hG => by (try simp only at hG); omega)
    exact (Ies.ld0 hA (by kernel_rfl) hx1)
   refine VT_pures 2 (kn' := [(6, .int .i64 ((i : Nat) : Int)), (5, .slice (some ⟨sb2, so2, none⟩) n' c'), (4, .int .u8 x1i), (3, .pointer (some ⟨sb1, so1 + i * 2, none⟩)), (2, .pointer (some ⟨sb1, so1 + i * 2, none⟩)), (1, .int .i64 ((i : Nat) : Int)), (0, .slice (some ⟨sb1, so1, none⟩) n c)]) (by kernel_rfl) ?_
   refine VT_index (d := 23) (b := sb2) (o := so2) (len := n') (sz := 2) (mm := ((i : Nat) : Int)) (by kernel_rfl) (by kernel_rfl) i (by rfl) (by omega) (so2 + i * 2) (by omega) ?_
   refine VT_pures 1 (kn' := [(8, .pointer (some ⟨sb2, so2 + i * 2, none⟩)), (7, .pointer (some ⟨sb2, so2 + i * 2, none⟩)), (6, .int .i64 ((i : Nat) : Int)), (5, .slice (some ⟨sb2, so2, none⟩) n' c'), (4, .int .u8 x1i), (3, .pointer (some ⟨sb1, so1 + i * 2, none⟩)), (2, .pointer (some ⟨sb1, so1 + i * 2, none⟩)), (1, .int .i64 ((i : Nat) : Int)), (0, .slice (some ⟨sb1, so1, none⟩) n c)]) (by kernel_rfl) ?_
   obtain ⟨⟨x2i, x2A, x2n, x2c, x2b⟩, hx2⟩ : ∃ x, l'[i]? = some x := ⟨_, List.getElem?_eq_getElem (by omega)⟩
   obtain ⟨hnx2, hcx2, hbx2⟩ := Ies.body hA' hx2
   dsimp only at hnx2 hcx2 hbx2
   refine VT_load (d := 25) (t := 5) (a := ⟨sb2, so2 + i * 2, none⟩) (v := .int .u8 x2i) (by kernel_rfl) (by kernel_rfl) ?_ ?_
   ·intro w4 hr2
    replace hS := Step.transNew hS hr2 (fun i hi hG => by (try simp only at hG); omega)
    replace hA := hA.step hr2 (fun k hk1 hk2 hG => by (try simp only at hG); omega)
    replace hA' := hA'.step hr2 (fun k hk1 hk2 hG => by (try simp only at hG); omega)
    replace hbx1 := hbx1.step hr2 (fun k hk hG => by (try simp only at hG); omega)
    replace hbx2 := hbx2.step hr2 (fun k hk hG => by (try simp only at hG); omega)
    exact (Ies.ld0 hA' (by kernel_rfl) hx2)
   refine VT_pures 2 (kn' := [(11, .bool (x1i != x2i)), (10, .bool (x1i != x2i)), (9, .int .u8 x2i), (8, .pointer (some ⟨sb2, so2 + i * 2, none⟩)), (7, .pointer (some ⟨sb2, so2 + i * 2, none⟩)), (6, .int .i64 ((i : Nat) : Int)), (5, .slice (some ⟨sb2, so2, none⟩) n' c'), (4, .int .u8 x1i), (3, .pointer (some ⟨sb1, so1 + i * 2, none⟩)), (2, .pointer (some ⟨sb1, so1 + i * 2, none⟩)), (1, .int .i64 ((i : Nat) : Int)), (0, .slice (some ⟨sb1, so1, none⟩) n c)]) (by kernel_rfl) ?_
   rcases Bool.eq_false_or_eq_true (x1i != x2i) with hg1 | hg1
   ·refine VT_eq [(11, .bool true), (10, .bool true), (9, .int .u8 x2i), (8, .pointer (some ⟨sb2, so2 + i * 2, none⟩)), (7, .pointer (some ⟨sb2, so2 + i * 2, none⟩)), (6, .int .i64 ((i : Nat) : Int)), (5, .slice (some ⟨sb2, so2, none⟩) n' c'), (4, .int .u8 x1i), (3, .pointer (some ⟨sb1, so1 + i * 2, none⟩)), (2, .pointer (some ⟨sb1, so1 + i * 2, none⟩)), (1, .int .i64 ((i : Nat) : Int)), (0, .slice (some ⟨sb1, so1, none⟩) n c)] (by simp only [hg1, Bool.not_true, Bool.not_false]) ?_
    try simp only [bne_iff_ne, beq_iff_eq, decide_eq_true_eq, decide_eq_false_iff_not, bne_eq_false_iff_eq, beq_eq_false_iff_ne, ne_eq] at hg1
    refine VT_pures 10 (kn' := [(21, undef), (20, undef), (19, undef), (18, undef), (17, undef), (16, undef), (15, undef), (14, undef), (13, undef), (12, undef), (11, .bool true), (10, .bool true), (9, .int .u8 x2i), (8, .pointer (some ⟨sb2, so2 + i * 2, none⟩)), (7, .pointer (some ⟨sb2, so2 + i * 2, none⟩)), (6, .int .i64 ((i : Nat) : Int)), (5, .slice (some ⟨sb2, so2, none⟩) n' c'), (4, .int .u8 x1i), (3, .pointer (some ⟨sb1, so1 + i * 2, none⟩)), (2, .pointer (some ⟨sb1, so1 + i * 2, none⟩)), (1, .int .i64 ((i : Nat) : Int)), (0, .slice (some ⟨sb1, so1, none⟩) n c)]) (by kernel_rfl) ?_
    refine VT_end ?_
    intro w5 hs2
    replace hS := Step.trans hS hs2
    replace hA := hA.no hs2
    replace hA' := hA'.no hs2
    replace hbx1 := hbx1.no hs2
    replace hbx2 := hbx2.no hs2
    refine VL_keep [0, 1, 12, 13, 27, 32, 37] [(0, .slice (some ⟨sb1, so1, none⟩) n c), (1, .slice (some ⟨sb2, so2, none⟩) n' c'), (12, .int .i64 ((n : Nat) : Int)), (13, .int .i64 ((i : Nat) : Int)), (27, .bool true), (32, undef), (37, undef)] (by kernel_rfl) ?_
    refine VL_pure 25 [0, 1, 12, 13, 40] [(0, .slice (some ⟨sb1, so1, none⟩) n c), (1, .slice (some ⟨sb2, so2, none⟩) n' c'), (12, .int .i64 ((n : Nat) : Int)), (13, .int .i64 ((i : Nat) : Int)), (40, .bool true)] (by kernel_rfl) rfl ?_
    refine VL_end (by kernel_rfl) ?_
    refine VQ_next ?_
    refine VC_true (by kernel_rfl) ?_
    refine VC_seq ?_
    refine VC_region ?_
    refine VL_pure 1 [4] [(4, .bool false)] (by kernel_rfl) rfl ?_
    refine VL_end (by kernel_rfl) ?_
    refine VQ_next ?_
    refine VC_ret ?_
    refine VQ_block_ret ?_
    refine VQ_then_ret ?_
    refine VQ_then_ret ?_
    refine VQ_block_ret ?_
    refine VQ_then_ret ?_
    refine VQ_ret1 (.bool false) (.inr rfl) rfl rfl ?_
    first | exact ⟨congrArg Value.bool (Eq.symm (vals_nel hn hn' (by omega))), hS⟩ | exact ⟨congrArg Value.bool (Eq.symm (vals_ne hx1 hx2 (by simp_all))), hS⟩
   ·refine VT_eq [(11, .bool false), (10, .bool false), (9, .int .u8 x2i), (8, .pointer (some ⟨sb2, so2 + i * 2, none⟩)), (7, .pointer (some ⟨sb2, so2 + i * 2, none⟩)), (6, .int .i64 ((i : Nat) : Int)), (5, .slice (some ⟨sb2, so2, none⟩) n' c'), (4, .int .u8 x1i), (3, .pointer (some ⟨sb1, so1 + i * 2, none⟩)), (2, .pointer (some ⟨sb1, so1 + i * 2, none⟩)), (1, .int .i64 ((i : Nat) : Int)), (0, .slice (some ⟨sb1, so1, none⟩) n c)] (by simp only [hg1, Bool.not_true, Bool.not_false]) ?_
    try simp only [bne_iff_ne, beq_iff_eq, decide_eq_true_eq, decide_eq_false_iff_not, bne_eq_false_iff_eq, beq_eq_false_iff_ne, ne_eq] at hg1
    refine VT_pures 2 (kn' := [(13, .int .i64 ((i : Nat) : Int)), (12, .slice (some ⟨sb1, so1, none⟩) n c), (11, .bool false), (10, .bool false), (9, .int .u8 x2i), (8, .pointer (some ⟨sb2, so2 + i * 2, none⟩)), (7, .pointer (some ⟨sb2, so2 + i * 2, none⟩)), (6, .int .i64 ((i : Nat) : Int)), (5, .slice (some ⟨sb2, so2, none⟩) n' c'), (4, .int .u8 x1i), (3, .pointer (some ⟨sb1, so1 + i * 2, none⟩)), (2, .pointer (some ⟨sb1, so1 + i * 2, none⟩)), (1, .int .i64 ((i : Nat) : Int)), (0, .slice (some ⟨sb1, so1, none⟩) n c)]) (by kernel_rfl) ?_
    refine VT_index (d := 30) (b := sb1) (o := so1) (len := n) (sz := 2) (mm := ((i : Nat) : Int)) (by kernel_rfl) (by kernel_rfl) i (by rfl) (by omega) (so1 + i * 2) (by omega) ?_
    refine VT_pures 1 (kn' := [(15, .pointer (some ⟨sb1, so1 + i * 2 + 1, none⟩)), (14, .pointer (some ⟨sb1, so1 + i * 2, none⟩)), (13, .int .i64 ((i : Nat) : Int)), (12, .slice (some ⟨sb1, so1, none⟩) n c), (11, .bool false), (10, .bool false), (9, .int .u8 x2i), (8, .pointer (some ⟨sb2, so2 + i * 2, none⟩)), (7, .pointer (some ⟨sb2, so2 + i * 2, none⟩)), (6, .int .i64 ((i : Nat) : Int)), (5, .slice (some ⟨sb2, so2, none⟩) n' c'), (4, .int .u8 x1i), (3, .pointer (some ⟨sb1, so1 + i * 2, none⟩)), (2, .pointer (some ⟨sb1, so1 + i * 2, none⟩)), (1, .int .i64 ((i : Nat) : Int)), (0, .slice (some ⟨sb1, so1, none⟩) n c)]) (by kernel_rfl) ?_
    refine VT_load (d := 32) (t := 25) (a := ⟨sb1, so1 + i * 2 + 1, none⟩) (v := .slice x1A x1n x1c) (by kernel_rfl) (by kernel_rfl) ?_ ?_
    ·intro w6 hr3
     replace hS := Step.transNew hS hr3 (fun i hi hG => by (try simp only at hG); omega)
     replace hA := hA.step hr3 (fun k hk1 hk2 hG => by (try simp only at hG); omega)
     replace hA' := hA'.step hr3 (fun k hk1 hk2 hG => by (try simp only at hG); omega)
     replace hbx1 := hbx1.step hr3 (fun k hk hG => by (try simp only at hG); omega)
     replace hbx2 := hbx2.step hr3 (fun k hk hG => by (try simp only at hG); omega)
     exact (Ies.ld1 hA (by kernel_rfl) hx1)
    refine VT_pures 2 (kn' := [(18, .int .i64 ((i : Nat) : Int)), (17, .slice (some ⟨sb2, so2, none⟩) n' c'), (16, .slice x1A x1n x1c), (15, .pointer (some ⟨sb1, so1 + i * 2 + 1, none⟩)), (14, .pointer (some ⟨sb1, so1 + i * 2, none⟩)), (13, .int .i64 ((i : Nat) : Int)), (12, .slice (some ⟨sb1, so1, none⟩) n c), (11, .bool false), (10, .bool false), (9, .int .u8 x2i), (8, .pointer (some ⟨sb2, so2 + i * 2, none⟩)), (7, .pointer (some ⟨sb2, so2 + i * 2, none⟩)), (6, .int .i64 ((i : Nat) : Int)), (5, .slice (some ⟨sb2, so2, none⟩) n' c'), (4, .int .u8 x1i), (3, .pointer (some ⟨sb1, so1 + i * 2, none⟩)), (2, .pointer (some ⟨sb1, so1 + i * 2, none⟩)), (1, .int .i64 ((i : Nat) : Int)), (0, .slice (some ⟨sb1, so1, none⟩) n c)]) (by kernel_rfl) ?_
    refine VT_index (d := 35) (b := sb2) (o := so2) (len := n') (sz := 2) (mm := ((i : Nat) : Int)) (by kernel_rfl) (by kernel_rfl) i (by rfl) (by omega) (so2 + i * 2) (by omega) ?_
    refine VT_pures 1 (kn' := [(20, .pointer (some ⟨sb2, so2 + i * 2 + 1, none⟩)), (19, .pointer (some ⟨sb2, so2 + i * 2, none⟩)), (18, .int .i64 ((i : Nat) : Int)), (17, .slice (some ⟨sb2, so2, none⟩) n' c'), (16, .slice x1A x1n x1c), (15, .pointer (some ⟨sb1, so1 + i * 2 + 1, none⟩)), (14, .pointer (some ⟨sb1, so1 + i * 2, none⟩)), (13, .int .i64 ((i : Nat) : Int)), (12, .slice (some ⟨sb1, so1, none⟩) n c), (11, .bool false), (10, .bool false), (9, .int .u8 x2i), (8, .pointer (some ⟨sb2, so2 + i * 2, none⟩)), (7, .pointer (some ⟨sb2, so2 + i * 2, none⟩)), (6, .int .i64 ((i : Nat) : Int)), (5, .slice (some ⟨sb2, so2, none⟩) n' c'), (4, .int .u8 x1i), (3, .pointer (some ⟨sb1, so1 + i * 2, none⟩)), (2, .pointer (some ⟨sb1, so1 + i * 2, none⟩)), (1, .int .i64 ((i : Nat) : Int)), (0, .slice (some ⟨sb1, so1, none⟩) n c)]) (by kernel_rfl) ?_
    refine VT_load (d := 37) (t := 25) (a := ⟨sb2, so2 + i * 2 + 1, none⟩) (v := .slice x2A x2n x2c) (by kernel_rfl) (by kernel_rfl) ?_ ?_
    ·intro w7 hr4
     replace hS := Step.transNew hS hr4 (fun i hi hG => by (try simp only at hG); omega)
     replace hA := hA.step hr4 (fun k hk1 hk2 hG => by (try simp only at hG); omega)
     replace hA' := hA'.step hr4 (fun k hk1 hk2 hG => by (try simp only at hG); omega)
     replace hbx1 := hbx1.step hr4 (fun k hk hG => by (try simp only at hG); omega)
     replace hbx2 := hbx2.step hr4 (fun k hk hG => by (try simp only at hG); omega)
     exact (Ies.ld1 hA' (by kernel_rfl) hx2)
    refine VT_end ?_
    intro w8 hs3
    replace hS := Step.trans hS hs3
    replace hA := hA.no hs3
    replace hA' := hA'.no hs3
    replace hbx1 := hbx1.no hs3
    replace hbx2 := hbx2.no hs3
    refine VL_keep [0, 1, 12, 13, 27, 32, 37] [(0, .slice (some ⟨sb1, so1, none⟩) n c), (1, .slice (some ⟨sb2, so2, none⟩) n' c'), (12, .int .i64 ((n : Nat) : Int)), (13, .int .i64 ((i : Nat) : Int)), (27, .bool false), (32, .slice x1A x1n x1c), (37, .slice x2A x2n x2c)] (by kernel_rfl) ?_
    have hzs2 := hS.size
    refine VL_call (d := 38) (f := 15) (args := #[.slice x1A x1n x1c, .slice x2A x2n x2c]) (by kernel_rfl) (by kernel_rfl) (by kernel_rfl) Try.call15 (same_any x1A x1n x1c _ x1b x2A x2n x2c _ x2b _ hnx1 hbx1 hnx2 hbx2 (hl1 _ (List.mem_of_getElem? hx1)) (hl2 _ (List.mem_of_getElem? hx2)) (by first | exact Nat.le_refl _ | omega) (by first | exact Nat.le_refl _ | omega)) ?_
    rintro _ w9 ⟨rfl, hc1⟩
    replace hS := Step.trans hS hc1
    replace hA := hA.no hc1
    replace hA' := hA'.no hc1
    replace hbx1 := hbx1.no hc1
    replace hbx2 := hbx2.no hc1
    refine VL_pure 25 [0, 1, 12, 13, 40] [(0, .slice (some ⟨sb1, so1, none⟩) n c), (1, .slice (some ⟨sb2, so2, none⟩) n' c'), (12, .int .i64 ((n : Nat) : Int)), (13, .int .i64 ((i : Nat) : Int)), (40, .bool (!(x1b == x2b)))] (by kernel_rfl) rfl ?_
    refine VL_end (by kernel_rfl) ?_
    refine VQ_next ?_
    refine VC_cond (!(x1b == x2b)) (by kernel_rfl) (fun h3 => ?_) (fun h3 => ?_)
    ·try simp only [Bool.and_eq_true, Bool.or_eq_true, decide_eq_true_eq, Bool.not_eq_true', decide_eq_false_iff_not, Bool.and_eq_false_iff, Bool.or_eq_false_iff, beq_iff_eq, bne_iff_ne, beq_eq_false_iff_ne, bne_eq_false_iff_eq, Bool.not_eq_eq_eq_not, Bool.not_true, Bool.not_false] at h3
     refine VC_seq ?_
     refine VC_region ?_
     refine VL_pure 1 [4] [(4, .bool false)] (by kernel_rfl) rfl ?_
     refine VL_end (by kernel_rfl) ?_
     refine VQ_next ?_
     refine VC_ret ?_
     refine VQ_block_ret ?_
     refine VQ_then_ret ?_
     refine VQ_then_ret ?_
     refine VQ_block_ret ?_
     refine VQ_then_ret ?_
     refine VQ_ret1 (.bool false) (.inr rfl) rfl rfl ?_
     first | exact ⟨congrArg Value.bool (Eq.symm (vals_nel hn hn' (by omega))), hS⟩ | exact ⟨congrArg Value.bool (Eq.symm (vals_ne hx1 hx2 (by simp_all))), hS⟩
    ·try simp only [Bool.and_eq_true, Bool.or_eq_true, decide_eq_true_eq, Bool.not_eq_true', decide_eq_false_iff_not, Bool.and_eq_false_iff, Bool.or_eq_false_iff, beq_iff_eq, bne_iff_ne, beq_eq_false_iff_ne, bne_eq_false_iff_eq, Bool.not_eq_eq_eq_not, Bool.not_true, Bool.not_false] at h3
     refine VC_skip ?_
     refine VQ_block_normal ?_
     refine VQ_next ?_
     refine VC_region ?_
     refine VL_pure 1 [0, 1, 12, 41] [(0, .slice (some ⟨sb1, so1, none⟩) n c), (1, .slice (some ⟨sb2, so2, none⟩) n' c'), (12, .int .i64 ((n : Nat) : Int)), (41, .int .i64 (IntKind.wrap .i64 (((i : Nat) : Int) + 1)))] (by kernel_rfl) rfl ?_
     have he1 : IntKind.wrap .i64 (((i : Nat) : Int) + 1) = ((i + 1 : Nat) : Int) := (by rw [wrap_i64 _ (by omega) (by omega)]; omega)
     refine VL_eq [(0, .slice (some ⟨sb1, so1, none⟩) n c), (1, .slice (some ⟨sb2, so2, none⟩) n' c'), (12, .int .i64 ((n : Nat) : Int)), (41, .int .i64 ((i + 1 : Nat) : Int))] (by rw [he1]) ?_
     refine VL_pure 2 [0, 1, 12, 13] [(0, .slice (some ⟨sb1, so1, none⟩) n c), (1, .slice (some ⟨sb2, so2, none⟩) n' c'), (12, .int .i64 ((n : Nat) : Int)), (13, .int .i64 ((i + 1 : Nat) : Int))] (by kernel_rfl) rfl ?_
     refine VL_end (by kernel_rfl) ?_
     refine VQ_again (i + 1) ⟨rfl, rfl, rfl, rfl, trivial⟩ ?_ ?_
     ·exact ⟨(by omega), fun j x y hj g1 g2 => by rcases Nat.lt_succ_iff_lt_or_eq.1 hj with h9 | rfl; exact hz j x y h9 g1 g2; rw [hx1] at g1; rw [hx2] at g2; cases g1; cases g2; simp_all, hS, hA, hA'⟩
     ·(try dsimp only); omega
  ·refine VC_exit ?_
   refine VQ_then_exit ?_
   refine VQ_then_exit ?_
   refine VQ_block_hit ?_
   refine VQ_next ?_
   refine VC_seq ?_
   refine VC_region ?_
   refine VL_pure 1 [4] [(4, .bool true)] (by kernel_rfl) rfl ?_
   refine VL_end (by kernel_rfl) ?_
   refine VQ_next ?_
   refine VC_ret ?_
   refine VQ_ret1 (.bool true) (.inr rfl) rfl rfl ?_
   obtain rfl : i = n := by omega
   exact ⟨congrArg Value.bool (Eq.symm (vals_eq hn (by omega) hz)), hS⟩

set_option maxRecDepth 100000 in
set_option maxHeartbeats 4000000 in
theorem unpack_any (A : Option Addr) (n c Bd : Nat) (bs : List Int) (w : World) (hn : bs.length = n) (hA : Sl w Bd A (iL .u8 bs)) (hc : n ≤ c) (hb : Bytes bs) (hlen : n ≤ 100000) (hBd : Bd ≤ w.heap.size) :
  CV Try.prog 31 #[.slice A n c] w (fun x w1 => UnR w w1 60 5 x bs) := by
 have hS : Step No w w := Step.refl _ _
 refine CV_enter Try.f31 _ 51 [(0, .slice A n c)] Try.func31 rfl rfl (by kernel_rfl) rfl ?_
 refine VC_seq ?_
 refine VC_region ?_
 refine VL_pure 2 [0] [(0, .slice A n c)] (by kernel_rfl) rfl ?_
 refine VL_end (by kernel_rfl) ?_
 refine VQ_next ?_
 refine VC_seq ?_
 obtain ⟨base, hbaseE⟩ : ∃ x, x = w.heap.size := ⟨_, rfl⟩
 have hbase : base ≤ w.heap.size := Nat.le_of_eq hbaseE
 refine VC_region ?_
 refine VL_pure 1 [0, 4] [(0, .slice A n c), (4, .slice none 0 0)] (by kernel_rfl) rfl ?_
 refine VL_end (by kernel_rfl) ?_
 refine VQ_next ?_
 refine VC_seq ?_
 refine VC_block ?_
 refine VC_loop (σ := (List Int) × (Option Addr) × Nat × Nat × (List IeV) × (Option Addr) × Nat × Nat) (fun σs => [(0, .slice σs.2.1 σs.2.2.1 σs.2.2.2.1), (4, .slice σs.2.2.2.2.2.1 σs.2.2.2.2.2.2.1 σs.2.2.2.2.2.2.2)]) (fun σs w1 => (σs.1.length = σs.2.2.1) ∧ (σs.2.2.1 ≤ σs.2.2.2.1) ∧ (σs.2.2.1 ≤ n) ∧ (σs.2.2.2.2.2.2.1 ≤ 16) ∧ (Bytes σs.1) ∧ (ieU (vals σs.2.2.2.2.1) σs.1 = ieU [] bs) ∧ (Step No w w1) ∧ (base ≤ w1.heap.size) ∧ (Sl w1 Bd σs.2.1 (iL .u8 σs.1)) ∧ (Ier w1 base 60 5 σs.2.2.2.2.2.1 σs.2.2.2.2.2.2.1 σs.2.2.2.2.2.2.2 σs.2.2.2.2.1)) (fun σs w1 => σs.2.2.1) ⟨bs, A, n, c, [], none, 0, 0⟩ ⟨rfl, rfl, trivial⟩ ?_ ?_
 ·exact ⟨hn, hc, Nat.le_refl _, (Nat.zero_le _), hb, rfl, hS, hbase, hA, Ier.nil _ _ _ _⟩
 rintro ⟨rs, Ar, mr, cr, ol, Ao, mo, co⟩ w1 ⟨hm, hcc, hm2, ho16, hby, hU, hS, hbase, hA1, hO⟩
 try dsimp only at hm hcc hm2 ho16 hby hU hS hbase hA1 hO ⊢
 have hol := hO.len
 refine VC_seq ?_
 refine VC_seq ?_
 refine VC_region ?_
 refine VL_pure 3 [0, 4, 8] [(0, .slice Ar mr cr), (4, .slice Ao mo co), (8, .bool (decide (((mr : Nat) : Int) > 0)))] (by kernel_rfl) rfl ?_
 refine VL_end (by kernel_rfl) ?_
 refine VQ_next ?_
 refine VC_dec (((mr : Nat) : Int) > 0) (by kernel_rfl) (fun h1 => ?_) (fun h1 => ?_)
 ·refine VC_skip ?_
  refine VQ_next ?_
  refine VC_block ?_
  refine VC_seq ?_
  refine VC_block ?_
  refine VC_seq ?_
  refine VC_region ?_
  refine VL_pure 4 [0, 4, 9] [(0, .slice Ar mr cr), (4, .slice Ao mo co), (9, .bool (((mo : Nat) : Int) == 16))] (by kernel_rfl) rfl ?_
  refine VL_end (by kernel_rfl) ?_
  refine VQ_next ?_
  refine VC_eq ((mo : Nat) : Int) 16 (by kernel_rfl) (fun h2 => ?_) (fun h2 => ?_)
  ·refine VC_seq ?_
   refine VC_region ?_
   refine VL_pure 2 [2, 3] [(2, .slice none 0 0), (3, .int .i64 6)] (by kernel_rfl) rfl ?_
   refine VL_end (by kernel_rfl) ?_
   refine VQ_next ?_
   refine VC_ret ?_
   refine VQ_block_ret ?_
   refine VQ_then_ret ?_
   refine VQ_block_ret ?_
   refine VQ_then_ret ?_
   refine VQ_block_ret ?_
   refine VQ_then_ret ?_
   refine VQ_ret2 (.slice none 0 0) (.int .i64 6) (.inr rfl) rfl rfl rfl ?_
   refine UnR.no (hU.symm.trans ?_) hS
   have hvl := vals_len ol
   first | exact ieU_16 (by omega) (by omega) | exact ieU_200 (by omega) (by omega) (by assumption) (by omega)
  ·refine VC_seq ?_
   refine VC_region ?_
   refine VL_pure 4 [0, 4, 13] [(0, .slice Ar mr cr), (4, .slice Ao mo co), (13, .bool (decide (((mr : Nat) : Int) < 4)))] (by kernel_rfl) rfl ?_
   refine VL_end (by kernel_rfl) ?_
   refine VQ_next ?_
   refine VC_dec (((mr : Nat) : Int) < 4) (by kernel_rfl) (fun h3 => ?_) (fun h3 => ?_)
   ·refine VC_seq ?_
    refine VC_region ?_
    refine VL_pure 2 [2, 3] [(2, .slice none 0 0), (3, .int .i64 2)] (by kernel_rfl) rfl ?_
    refine VL_end (by kernel_rfl) ?_
    refine VQ_next ?_
    refine VC_ret ?_
    refine VQ_block_ret ?_
    refine VQ_then_ret ?_
    refine VQ_block_ret ?_
    refine VQ_then_ret ?_
    refine VQ_block_ret ?_
    refine VQ_then_ret ?_
    refine VQ_ret2 (.slice none 0 0) (.int .i64 2) (.inr rfl) rfl rfl rfl ?_
    refine UnR.no (hU.symm.trans ?_) hS
    have hvl := vals_len ol
    first | exact ieU_4 (by omega) (by omega) (by omega) | exact ieU_short (by omega) (by omega) (by assumption) (by omega) (by omega)
   ·refine VC_seq ?_
    refine VC_region ?_
    refine VL_pure 1 [0, 4, 18] [(0, .slice Ar mr cr), (4, .slice Ao mo co), (18, .slice Ar mr cr)] (by kernel_rfl) rfl ?_
    obtain ⟨sb1, so1, rfl, hlbsb1⟩ := hA1.open (by simp only [iL_length]; omega)
    refine VL_index (d := 19) (b := sb1) (o := so1) (len := mr) (sz := 1) (m := 1) (by kernel_rfl) (by kernel_rfl) 1 (by rfl) (by omega) (so1 + 1) (by omega) ?_
    refine VL_load (d := 20) (t := 5) (a := ⟨sb1, so1 + 1, none⟩) (v := .int .u8 (rs.getD 1 0)) (by kernel_rfl) (by kernel_rfl) (Sl.ldI hA1 (by kernel_rfl) 1 (by (try simp only [List.length_set, List.length_append, List.length_map, List.length_replicate, List.length_cons, List.length_nil, List.length_take, List.length_drop, List.length_range]) <;> omega)) ?_
    refine VL_pure 5 [0, 4, 17] [(0, .slice (some ⟨sb1, so1, none⟩) mr cr), (4, .slice Ao mo co), (17, .bool ((rs.getD 1 0) != 128))] (by kernel_rfl) rfl ?_
    refine VL_end (by kernel_rfl) ?_
    refine VQ_next ?_
    refine VC_ne (rs.getD 1 0) 128 (by kernel_rfl) (fun h4 => ?_) (fun h4 => ?_)
    ·refine VC_seq ?_
     refine VC_region ?_
     refine VL_pure 2 [2, 3] [(2, .slice none 0 0), (3, .int .i64 5)] (by kernel_rfl) rfl ?_
     refine VL_end (by kernel_rfl) ?_
     refine VQ_next ?_
     refine VC_ret ?_
     refine VQ_block_ret ?_
     refine VQ_then_ret ?_
     refine VQ_block_ret ?_
     refine VQ_then_ret ?_
     refine VQ_block_ret ?_
     refine VQ_then_ret ?_
     refine VQ_ret2 (.slice none 0 0) (.int .i64 5) (.inr rfl) rfl rfl rfl ?_
     refine UnR.no (hU.symm.trans ?_) hS
     have hvl := vals_len ol
     exact ieU_128 (by omega) (by omega) (by assumption)
    ·refine VC_skip ?_
     refine VQ_block_normal ?_
     refine VQ_next ?_
     refine VC_seq ?_
     refine VC_region ?_
     refine VL_pure 1 [0, 4, 22] [(0, .slice (some ⟨sb1, so1, none⟩) mr cr), (4, .slice Ao mo co), (22, .slice (some ⟨sb1, so1, none⟩) mr cr)] (by kernel_rfl) rfl ?_
     obtain ⟨so2, hso2⟩ : ∃ x, (if cr = 2 then so1 else so1 + 2 * 1) = x := ⟨_, rfl⟩
     refine VL_slice (d := 23) (b := sb1) (o := so1) (sz := 1) (len := mr) (cap := cr) (lo := (some 2)) (hi := (some 4)) (mx := none) (by kernel_rfl) (by kernel_rfl) (fun h => by first | exact absurd rfl h | exact (fun h => by cases h)) 2 4 cr rfl rfl rfl (by omega) (by omega) (by omega) so2 hso2 2 (by omega) (cr - 2) (by omega) ?_
     have hsl1 := Sl.cutI (H := 4) hA1 hso2 (by omega)
     have hzs1 := hS.size
     refine VL_call (d := 24) (f := 53) (args := #[.slice (some ⟨sb1, so2, none⟩) 2 (cr - 2)]) (by kernel_rfl) (by kernel_rfl) (by kernel_rfl) Try.call53 (get_any (some ⟨sb1, so2, none⟩) 2 (cr - 2) _ ((rs.drop 2).take (4 - 2)) _ (by simp only [List.length_take, List.length_drop]; omega) hsl1 (by omega)) ?_
     rintro _ w2 ⟨rfl, hc1⟩
     replace hS := Step.trans hS hc1
     replace hbase := Nat.le_trans hbase (hc1).size
     replace hA1 := hA1.no hc1
     replace hO := hO.no hc1
     replace hsl1 := hsl1.no hc1
     refine VL_keep [0, 4, 22, 23, 24] [(0, .slice (some ⟨sb1, so1, none⟩) mr cr), (4, .slice Ao mo co), (22, .slice (some ⟨sb1, so1, none⟩) mr cr), (23, .slice (some ⟨sb1, so2, none⟩) 2 (cr - 2)), (24, .int .i64 (getL ((rs.drop 2).take (4 - 2))))] (by kernel_rfl) ?_
     refine VL_eq [(0, .slice (some ⟨sb1, so1, none⟩) mr cr), (4, .slice Ao mo co), (22, .slice (some ⟨sb1, so1, none⟩) mr cr), (23, .slice (some ⟨sb1, so2, none⟩) 2 (cr - 2)), (24, .int .i64 ((numB rs : Nat) : Int))] (by rw [getL_eq ((hby.drop _).take _) (by simp only [List.length_take, List.length_drop]; omega)]; rfl) ?_
     refine VL_pure 4 [0, 4, 5] [(0, .slice (some ⟨sb1, so1, none⟩) mr cr), (4, .slice Ao mo co), (5, .int .i64 ((numB rs : Nat) : Int))] (by kernel_rfl) rfl ?_
     refine VL_end (by kernel_rfl) ?_
     refine VQ_next ?_
     refine VC_seq ?_
     refine VC_block ?_
     refine VC_seq ?_
     refine VC_region ?_
     refine VL_pure 3 [0, 4, 5, 25] [(0, .slice (some ⟨sb1, so1, none⟩) mr cr), (4, .slice Ao mo co), (5, .int .i64 ((numB rs : Nat) : Int)), (25, .bool (decide (((numB rs : Nat) : Int) > 200)))] (by kernel_rfl) rfl ?_
     refine VL_end (by kernel_rfl) ?_
     refine VQ_next ?_
     refine VC_dec (((numB rs : Nat) : Int) > 200) (by kernel_rfl) (fun h5 => ?_) (fun h5 => ?_)
     ·refine VC_seq ?_
      refine VC_region ?_
      refine VL_pure 2 [2, 3] [(2, .slice none 0 0), (3, .int .i64 6)] (by kernel_rfl) rfl ?_
      refine VL_end (by kernel_rfl) ?_
      refine VQ_next ?_
      refine VC_ret ?_
      refine VQ_block_ret ?_
      refine VQ_then_ret ?_
      refine VQ_block_ret ?_
      refine VQ_then_ret ?_
      refine VQ_block_ret ?_
      refine VQ_then_ret ?_
      refine VQ_ret2 (.slice none 0 0) (.int .i64 6) (.inr rfl) rfl rfl rfl ?_
      refine UnR.no (hU.symm.trans ?_) hS
      have hvl := vals_len ol
      first | exact ieU_16 (by omega) (by omega) | exact ieU_200 (by omega) (by omega) (by assumption) (by omega)
     ·refine VC_seq ?_
      refine VC_region ?_
      refine VL_pure 4 [0, 4, 5, 30, 32] [(0, .slice (some ⟨sb1, so1, none⟩) mr cr), (4, .slice Ao mo co), (5, .int .i64 ((numB rs : Nat) : Int)), (30, .int .i64 ((mr : Nat) : Int)), (32, .int .i64 (IntKind.wrap .i64 (4 + ((numB rs : Nat) : Int))))] (by kernel_rfl) rfl ?_
      have he1 : IntKind.wrap .i64 (4 + ((numB rs : Nat) : Int)) = ((numB rs + 4 : Nat) : Int) := (by rw [wrap_i64 _ (by omega) (by omega)]; omega)
      refine VL_eq [(0, .slice (some ⟨sb1, so1, none⟩) mr cr), (4, .slice Ao mo co), (5, .int .i64 ((numB rs : Nat) : Int)), (30, .int .i64 ((mr : Nat) : Int)), (32, .int .i64 ((numB rs + 4 : Nat) : Int))] (by rw [he1]) ?_
      refine VL_pure 6 [0, 4, 5, 28] [(0, .slice (some ⟨sb1, so1, none⟩) mr cr), (4, .slice Ao mo co), (5, .int .i64 ((numB rs : Nat) : Int)), (28, .bool (decide (((mr : Nat) : Int) < ((numB rs + 4 : Nat) : Int))))] (by kernel_rfl) rfl ?_
      refine VL_end (by kernel_rfl) ?_
      refine VQ_next ?_
      refine VC_dec (((mr : Nat) : Int) < ((numB rs + 4 : Nat) : Int)) (by kernel_rfl) (fun h6 => ?_) (fun h6 => ?_)
      ·refine VC_seq ?_
       refine VC_region ?_
       refine VL_pure 2 [2, 3] [(2, .slice none 0 0), (3, .int .i64 2)] (by kernel_rfl) rfl ?_
       refine VL_end (by kernel_rfl) ?_
       refine VQ_next ?_
       refine VC_ret ?_
       refine VQ_block_ret ?_
       refine VQ_then_ret ?_
       refine VQ_block_ret ?_
       refine VQ_then_ret ?_
       refine VQ_block_ret ?_
       refine VQ_then_ret ?_
       refine VQ_ret2 (.slice none 0 0) (.int .i64 2) (.inr rfl) rfl rfl rfl ?_
       refine UnR.no (hU.symm.trans ?_) hS
       have hvl := vals_len ol
       first | exact ieU_4 (by omega) (by omega) (by omega) | exact ieU_short (by omega) (by omega) (by assumption) (by omega) (by omega)
      ·refine VC_skip ?_
       refine VQ_block_normal ?_
       refine VQ_next ?_
       refine VC_seq ?_
       have hs1 := drew_step w2
       have hs1z : w2.heap.size = w2.drew.heap.size := rfl
       refine VC_text [[], [], [1], [1, 2], [], [], [5], [4, 5, 6], [4, 5, 6, 7], [1, 2, 3, 4, 5, 6, 7, 8], [1, 2, 3, 4, 5, 6, 7, 8, 9], [0, 1, 2, 3, 4, 5, 6, 7, 8, 9, 10], [0, 1, 2, 3, 4, 5, 6, 7, 8, 9, 10, 11]] 11 (fun x y => Step (fun k => w2.heap.size ≤ k) x y) [8, 10] [0, 1, 2, 3, 4, 5, 6, 7, 8, 9, 10] (by kernel_rfl) (by kernel_rfl) (by kernel_rfl) (by kernel_rfl) (fun x => Step.refl _ x) (fun h k => Step.trans h k) Step.weak ?_
       have hzs2 := hS.size
       generalize w2.drew = w3 at hs1 hs1z ⊢
       replace hS := Step.trans hS hs1
       replace hbase := Nat.le_trans hbase (hs1).size
       replace hA1 := hA1.no hs1
       replace hO := hO.no hs1
       replace hsl1 := hsl1.no hs1
       refine VT_pures 2 (kn' := [(1, .slice (some ⟨sb1, so1, none⟩) mr cr), (0, .slice Ao mo co)]) (by kernel_rfl) ?_
       refine VT_index (d := 36) (b := sb1) (o := so1) (len := mr) (sz := 1) (mm := 0) (by kernel_rfl) (by kernel_rfl) 0 (by rfl) (by omega) so1 (by omega) ?_
       refine VT_load (d := 37) (t := 5) (a := ⟨sb1, so1, none⟩) (v := .int .u8 (rs.getD 0 0)) (by kernel_rfl) (by kernel_rfl) ?_ ?_
       ·intro w4 hr1
        replace hS := Step.transNew hS hr1 (fun i hi hG => by (try simp only at hG); omega)
        replace hbase := Nat.le_trans hbase (hr1).size
        replace hA1 := hA1.keepB hr1 (by (try simp only); omega)
        replace hO := hO.stepN hr1 (fun k hk hk2 hG => by (try simp only at hG); omega)
        replace hsl1 := hsl1.keepB hr1 (by (try simp only); omega)
        exact (Sl.ldI hA1 (by kernel_rfl) 0 (by (try simp only [List.length_set, List.length_append, List.length_map, List.length_replicate, List.length_cons, List.length_nil, List.length_take, List.length_drop, List.length_range]) <;> omega))
       refine VT_pures 3 (kn' := [(6, .int .i64 (IntKind.wrap .i64 (4 + ((numB rs : Nat) : Int)))), (5, .int .i64 ((numB rs : Nat) : Int)), (4, .slice (some ⟨sb1, so1, none⟩) mr cr), (3, .int .u8 (rs.getD 0 0)), (2, .pointer (some ⟨sb1, so1, none⟩)), (1, .slice (some ⟨sb1, so1, none⟩) mr cr), (0, .slice Ao mo co)]) (by kernel_rfl) ?_
       obtain ⟨so3, hso3⟩ : ∃ x, (if cr = 4 then so1 else so1 + 4 * 1) = x := ⟨_, rfl⟩
       refine VT_slice (d := 41) (b := sb1) (o := so1) (sz := 1) (len := mr) (cap := cr) (lo := (some 4)) (hi := (some (IntKind.wrap .i64 (4 + ((numB rs : Nat) : Int))))) (mx := none) (by kernel_rfl) (by kernel_rfl) (fun h => by first | exact absurd rfl h | exact (fun h => by cases h)) 4 (numB rs + 4) cr rfl (show IntKind.wrap .i64 (4 + ((numB rs : Nat) : Int)) = ((numB rs + 4 : Nat) : Int) from (by rw [wrap_i64 _ (by omega) (by omega)]; omega)) rfl (by omega) (by omega) (by omega) so3 hso3 ((numB rs + 4) - 4) (by omega) (cr - 4) (by omega) ?_
       have hsl2 := Sl.cutI (H := numB rs + 4) hA1 hso3 (by omega)
       refine VT_chain (by kernel_rfl) ?_
       intro w5 hs2
       have hzhs2 := hs2.size
       replace hS := Step.trans hS hs2
       replace hbase := Nat.le_trans hbase (hs2).size
       replace hA1 := hA1.no hs2
       replace hO := hO.no hs2
       replace hsl1 := hsl1.no hs2
       replace hsl2 := hsl2.no hs2
       have hzs3 := hS.size
       refine VTc_call (d := 42) (f := 43) (by kernel_rfl) (by kernel_rfl) (by kernel_rfl) Try.call43 (clone_some sb1 so3 ((numB rs + 4) - 4) (cr - 4) _ ((rs.drop 4).take ((numB rs + 4) - 4)) _ (by simp only [List.length_take, List.length_drop]; omega) hsl2 (by omega) (by first | exact Nat.le_refl _ | omega)) ?_ ?_
       ·rintro _ w6 ⟨A1, c1, rfl, hr2, hc2⟩
        exact Step.mono hc2 (by intro i hi; first | exact hi.elim | ((try simp only at hi ⊢); omega))
       rintro _ w6 ⟨A1, c1, rfl, hr2, hc2⟩
       have hzhc2 := (hc2).size
       replace hS := Step.trans hS hc2
       replace hbase := Nat.le_trans hbase (hc2).size
       replace hA1 := hA1.no hc2
       replace hO := hO.no hc2
       replace hsl1 := hsl1.no hc2
       replace hsl2 := hsl2.no hc2
       obtain ⟨base1, hbase1E⟩ : ∃ x, x = w5.heap.size := ⟨_, rfl⟩
       rw [← hbase1E] at hr2
       have hbase1 : base1 ≤ w6.heap.size := by rw [hbase1E]; exact hc2.size
       refine VT_pures 1 (kn' := [(9, .agg #[.int .u8 (rs.getD 0 0), .slice A1 ((numB rs + 4) - 4) c1]), (8, .slice A1 ((numB rs + 4) - 4) c1), (7, .slice (some ⟨sb1, so3, none⟩) ((numB rs + 4) - 4) (cr - 4)), (6, .int .i64 (IntKind.wrap .i64 (4 + ((numB rs : Nat) : Int)))), (5, .int .i64 ((numB rs : Nat) : Int)), (4, .slice (some ⟨sb1, so1, none⟩) mr cr), (3, .int .u8 (rs.getD 0 0)), (2, .pointer (some ⟨sb1, so1, none⟩)), (1, .slice (some ⟨sb1, so1, none⟩) mr cr), (0, .slice Ao mo co)]) (by kernel_rfl) ?_
       refine VT_chain (by kernel_rfl) ?_
       intro w7 hs3
       have hzhs3 := hs3.size
       replace hS := Step.trans hS hs3
       replace hbase := Nat.le_trans hbase (hs3).size
       replace hA1 := hA1.no hs3
       replace hO := hO.no hs3
       replace hsl1 := hsl1.no hs3
       replace hsl2 := hsl2.no hs3
       replace hbase1 := Nat.le_trans hbase1 (hs3).size
       replace hr2 := hr2.no hs3
       have hzs4 := hS.size
       have hzk1 := hbase
       have hzk2 := hbase1
       have hub1 := hO.ub
       have hub2 := hr2.ub
       have hzs5 := hS.size
       have hzk3 := hbase
       have hzk4 := hbase1
       refine VTc_bs (d := 44) (e := 60) (c := #[.int .u8 (rs.getD 0 0), .slice A1 ((numB rs + 4) - 4) c1]) (len := 1) (by kernel_rfl) (by kernel_rfl) (fun b w1 hn => hn.step _) ?_
       intro b1 w8 hn1
       replace hS := Step.trans hS (hn1.step No)
       replace hbase := Nat.le_trans hbase (hn1.step No).size
       replace hA1 := hA1.no (hn1.step No)
       replace hO := hO.no (hn1.step No)
       replace hsl1 := hsl1.no (hn1.step No)
       replace hsl2 := hsl2.no (hn1.step No)
       replace hbase1 := Nat.le_trans hbase1 (hn1.step No).size
       replace hr2 := hr2.no (hn1.step No)
       have ho1 := hn1.own
       have hzhn1 := hn1.size
       have hqhn1 := hn1.eqb
       refine VT_end ?_
       intro w9 hs4
       replace hS := Step.trans hS hs4
       replace hbase := Nat.le_trans hbase (hs4).size
       replace hA1 := hA1.no hs4
       replace hO := hO.no hs4
       replace hsl1 := hsl1.no hs4
       replace hsl2 := hsl2.no hs4
       replace hbase1 := Nat.le_trans hbase1 (hs4).size
       replace hr2 := hr2.no hs4
       replace ho1 := ho1.no hs4
       refine VL_keep [0, 5, 34, 44] [(0, .slice (some ⟨sb1, so1, none⟩) mr cr), (5, .int .i64 ((numB rs : Nat) : Int)), (34, .slice Ao mo co), (44, .slice (some ⟨b1, 0, none⟩) 1 1)] (by kernel_rfl) ?_
       have hzs6 := hS.size
       have hzk5 := hbase
       have hzk6 := hbase1
       have hzl1 := ho1.lt
       refine VL_appendZ (d := 45) (e := 60) (A := Ao) (m := mo) (c := co) (A2 := some ⟨b1, 0, none⟩) (m2 := 1) (c2 := 1) (sz := 2) (bytes := 32) (by kernel_rfl) (by kernel_rfl) (by kernel_rfl) base w9.heap.size (ieL ol) [.int .u8 (rs.getD 0 0), .slice A1 ((numB rs + 4) - 4) c1] hO.row (by rfl) (Own.sl ho1 ho1.lt) (by intro u hu; simp only [List.mem_cons, List.mem_nil_iff, or_false] at hu; rcases hu with rfl | rfl <;> rfl) (mo + 1) (by omega) (by simp only [maxLen]; omega) (by omega) (by omega) ?_
       intro A2 c2 w10 hr3 hg1
       have hI1 := hO
       replace hr3 := Ier.push (x := ⟨rs.getD 0 0, A1, ((numB rs + 4) - 4), c1, (rs.drop 4).take ((numB rs + 4) - 4)⟩) hO (by decide) (Rw.low hr2 (by omega)) hg1 hr3
       have hg1b : StepT 60 base w9 w10 := hI1.row.stepT hg1
       have hzhg1 := hg1.size
       have hg1bS : Step (fun k => base ≤ k) _ _ := Step.mono hg1b (fun i hi => hi.1)
       replace hS := Step.transNew hS hg1bS (fun i hi hG => by (try simp only at hG); omega)
       replace hbase := Nat.le_trans hbase (hg1bS).size
       replace hA1 := hA1.keepB hg1bS (by (try simp only); omega)
       replace hsl1 := hsl1.keepB hg1bS (by (try simp only); omega)
       replace hsl2 := hsl2.keepB hg1bS (by (try simp only); omega)
       replace hbase1 := Nat.le_trans hbase1 (hg1bS).size
       refine VL_pure 13 [0, 5, 4] [(0, .slice (some ⟨sb1, so1, none⟩) mr cr), (5, .int .i64 ((numB rs : Nat) : Int)), (4, .slice A2 (mo + 1) c2)] (by kernel_rfl) rfl ?_
       refine VL_end (by kernel_rfl) ?_
       refine VQ_next ?_
       refine VC_region ?_
       refine VL_pure 3 [4, 46, 48] [(4, .slice A2 (mo + 1) c2), (46, .slice (some ⟨sb1, so1, none⟩) mr cr), (48, .int .i64 (IntKind.wrap .i64 (4 + ((numB rs : Nat) : Int))))] (by kernel_rfl) rfl ?_
       have he2 : IntKind.wrap .i64 (4 + ((numB rs : Nat) : Int)) = ((numB rs + 4 : Nat) : Int) := (by rw [wrap_i64 _ (by omega) (by omega)]; omega)
       refine VL_eq [(4, .slice A2 (mo + 1) c2), (46, .slice (some ⟨sb1, so1, none⟩) mr cr), (48, .int .i64 ((numB rs + 4 : Nat) : Int))] (by rw [he2]) ?_
       obtain ⟨so4, hso4⟩ : ∃ x, (if cr = (numB rs + 4) then so1 else so1 + (numB rs + 4) * 1) = x := ⟨_, rfl⟩
       refine VL_slice (d := 49) (b := sb1) (o := so1) (sz := 1) (len := mr) (cap := cr) (lo := (some ((numB rs + 4 : Nat) : Int))) (hi := none) (mx := none) (by kernel_rfl) (by kernel_rfl) (fun h => by first | exact absurd rfl h | exact (fun h => by cases h)) (numB rs + 4) mr cr rfl rfl rfl (by omega) (by omega) (by omega) so4 hso4 (mr - (numB rs + 4)) (by omega) (cr - (numB rs + 4)) (by omega) ?_
       have hsl3 := Sl.cutI (H := mr) hA1 hso4 (by omega)
       refine VL_pure 5 [4, 0] [(4, .slice A2 (mo + 1) c2), (0, .slice (some ⟨sb1, so4, none⟩) (mr - (numB rs + 4)) (cr - (numB rs + 4)))] (by kernel_rfl) rfl ?_
       refine VL_end (by kernel_rfl) ?_
       refine VQ_block_normal ?_
       refine VQ_again (⟨rs.drop (numB rs + 4), (some ⟨sb1, so4, none⟩), (mr - (numB rs + 4)), (cr - (numB rs + 4)), ol ++ [⟨rs.getD 0 0, A1, ((numB rs + 4) - 4), c1, (rs.drop 4).take ((numB rs + 4) - 4)⟩], A2, mo + 1, c2⟩) ⟨rfl, rfl, trivial⟩ ?_ ?_
       ·exact ⟨(by dsimp only; rw [List.length_drop]; omega), (by dsimp only; omega), (by dsimp only; omega), (by dsimp only; omega), (hby.drop _), (by have hq := ieU_on (out := vals ol) (bs := rs) (by rw [vals_len]; omega) (by omega) (by assumption) (by omega) (by omega); rw [← hU, hq, vals_app, Nat.add_comm 4 (numB rs)]; rfl), hS, hbase, (Sl.cast hsl3 (congrArg (iL .u8) (List.take_of_length_le (by rw [List.length_drop]; omega)))), hr3⟩
       ·(try dsimp only); omega
 ·refine VC_exit ?_
  refine VQ_then_exit ?_
  refine VQ_then_exit ?_
  refine VQ_block_hit ?_
  refine VQ_next ?_
  refine VC_seq ?_
  refine VC_region ?_
  refine VL_pure 3 [2, 3] [(2, .slice Ao mo co), (3, .int .i64 0)] (by kernel_rfl) rfl ?_
  refine VL_end (by kernel_rfl) ?_
  refine VQ_next ?_
  refine VC_ret ?_
  refine VQ_ret2 (.slice Ao mo co) (.int .i64 0) (.inr rfl) rfl rfl rfl ?_
  have hrs := List.eq_nil_of_length_eq_zero (show rs.length = 0 by omega)
  exact UnR.yes (by rw [← hU, ieU_end (by omega)]) hO (by omega) hS

theorem getD_drop {bs : List Int} (q i : Nat) : (bs.drop q).getD i 0 = bs.getD (q + i) 0 := by simp [List.getD, List.getElem?_drop]
theorem numB_at {bs : List Int} {q : Nat} (hb : Bytes bs) (h : q + 4 ≤ bs.length) : IntKind.wrap .i64 (IntKind.wrap .i64 (IntKind.wrap .i64 (bs.getD (q + 2) 0) * 256) + IntKind.wrap .i64 (bs.getD (q + 3) 0)) = ((numB (bs.drop q) : Nat) : Int) := by
  have h1 := hb.get (q + 2)
  have h2 := hb.get (q + 3)
  rw [wrap_i64 (bs.getD (q + 2) 0) (by omega) (by omega), wrap_i64 (bs.getD (q + 3) 0) (by omega) (by omega), wrap_i64 (bs.getD (q + 2) 0 * 256) (by omega) (by omega), wrap_i64 _ (by omega) (by omega)]
  unfold numB
  rw [natL_2 (by simp only [List.length_take, List.length_drop]; omega)]
  simp only [List.getD, List.getElem?_take, List.getElem?_drop]
  simp only [show (0 : Nat) < 2 by decide, show (1 : Nat) < 2 by decide, if_true]
  simp only [List.getD] at h1 h2
  rw [show q + (2 + 0) = q + 2 by omega, show q + (2 + 1) = q + 3 by omega]
  omega
end Go.Proofs.Ytejpcmjokamdcaa
