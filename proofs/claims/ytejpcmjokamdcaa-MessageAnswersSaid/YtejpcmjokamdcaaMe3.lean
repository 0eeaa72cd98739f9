/- Layer 16: Unpack, Same, few; both sides. -/
import Derived.Test.YtejpcmjokamdcaaProg
import Derived.Test.YtejpcmjokamdcaaMe2
set_option linter.unusedVariables false
set_option linter.unusedSimpArgs false
namespace Go.Proofs.Ytejpcmjokamdcaa
open Go.Vc Go.RowKit

theorem muL_count (bs : List Int) : (muL bs).length ≤ 16 := by
  unfold muL
  split
  · exact ieU_count _ [] (by simp)
  · simp
theorem muL_bytes {bs : List Int} (hb : Bytes bs) : ∀ x ∈ muL bs, (0 ≤ x.1 ∧ x.1 < 256) ∧ Bytes x.2 ∧ x.2.length ≤ 200 := by
  unfold muL
  split
  · exact ieU_bytes _ [] (hb.drop _) (fun x hx => by simp at hx)
  · intro x hx; simp at hx
theorem mu_ieb {l : List IeV} {bs : List Int} (h : vals l = muL bs) (hb : Bytes bs) : ∀ x ∈ l, IeB x := by
  intro x hx
  have := muL_bytes hb x.val (by rw [← h]; exact List.mem_map_of_mem hx)
  exact ⟨this.1, this.2.1⟩
theorem mu_small {w : World} {lo hi : Nat} {A : Option Addr} {l : List IeV} {bs : List Int} (hI : Ies w lo hi A l) (h : vals l = muL bs) (hb : Bytes bs) : ∀ x ∈ l, x.n ≤ 200 := by
  intro x hx
  have := muL_bytes hb x.val (by rw [← h]; exact List.mem_map_of_mem hx)
  have h2 := (hI.all x hx).len
  have h3 : x.val.2 = x.bs := rfl
  rw [h3] at this
  omega
set_option maxRecDepth 100000 in
set_option maxHeartbeats 4000000 in
theorem msgun_any (A : Option Addr) (n c Bd : Nat) (bs : List Int) (w : World) (hn : bs.length = n) (hA : Sl w Bd A (iL .u8 bs)) (hc : n ≤ c) (hb : Bytes bs) (hlen : n ≤ 100000) (hBd : Bd ≤ w.heap.size) :
  CV Try.prog 13 #[.slice A n c] w (fun x w1 => MuR w w1 60 5 x bs) := by
 have hS : Step No w w := Step.refl _ _
 have hNl := muN_lt hb
 have hSl := muS_lt hb
 refine CV_enter Try.f13 _ 110 [(0, .slice A n c)] Try.func13 rfl rfl (by kernel_rfl) rfl ?_
 refine VC_seq ?_
 refine VC_region ?_
 have hzs1 := hS.size
 refine VL_box (d := 2) (t := 24) (c := #[.int .i64 0, .bool false, .int .i64 0, .slice none 0 0]) (by kernel_rfl) (by kernel_rfl) ?_
 intro b1 w1 hn1
 replace hS := Step.trans hS (hn1.step No)
 replace hA := hA.no (hn1.step No)
 have ho1 := hn1.own
 have hzhn1 := hn1.size
 have hqhn1 := hn1.eqb
 refine VL_pure 2 [0, 2] [(0, .slice A n c), (2, .pointer (some ⟨b1, 0, none⟩))] (by kernel_rfl) rfl ?_
 refine VL_end (by kernel_rfl) ?_
 refine VQ_next ?_
 refine VC_seq ?_
 refine VC_block ?_
 refine VC_seq ?_
 refine VC_region ?_
 refine VL_pure 4 [0, 2, 9] [(0, .slice A n c), (2, .pointer (some ⟨b1, 0, none⟩)), (9, .bool (decide (((n : Nat) : Int) > 1000)))] (by kernel_rfl) rfl ?_
 refine VL_end (by kernel_rfl) ?_
 refine VQ_next ?_
 refine VC_dec (((n : Nat) : Int) > 1000) (by kernel_rfl) (fun h1 => ?_) (fun h1 => ?_)
 ·refine VC_seq ?_
  refine VC_region ?_
  refine VL_pure 1 [2, 13] [(2, .pointer (some ⟨b1, 0, none⟩)), (13, .agg #[.int .i64 0, .bool false, .int .i64 0, .slice none 0 0])] (by kernel_rfl) rfl ?_
  refine VL_store (b := b1) (o := 0) (vs := [.int .i64 0, .bool false, .int .i64 0, .slice none 0 0]) (by kernel_rfl) (by kernel_rfl) ho1 (Nat.le_of_ble_eq_true (by kernel_rfl)) ?_
  intro w2 hw1
  replace hS := Step.transNew hS hw1.step (fun _ _ _ => by omega)
  replace hA := hA.step hw1.step (fun k hk (hF : k = b1) => by omega)
  have ho2 : Own w2 b1 #[.int .i64 0, .bool false, .int .i64 0, .slice none 0 0] 24 := Own.cast hw1.own (by kernel_rfl)
  have hzhw1 := hw1.same
  refine VL_pure 3 [2, 3] [(2, .pointer (some ⟨b1, 0, none⟩)), (3, .int .i64 6)] (by kernel_rfl) rfl ?_
  refine VL_end (by kernel_rfl) ?_
  refine VQ_next ?_
  refine VC_ret ?_
  refine VQ_block_ret ?_
  refine VQ_then_ret ?_
  refine VQ_retC1T1 (T := 24) (.agg #[.int .i64 0, .bool false, .int .i64 0, .slice none 0 0]) (.int .i64 6) (.inr rfl) rfl rfl rfl (Loads.ownL ho2 (n := 4) (by kernel_rfl) (by kernel_rfl) (by kernel_rfl)) ?_
  exact MuR.no (by exact mu_6 (by omega)) (by decide) hS
 ·refine VC_seq ?_
  refine VC_region ?_
  refine VL_pure 4 [0, 2, 14] [(0, .slice A n c), (2, .pointer (some ⟨b1, 0, none⟩)), (14, .bool (decide (((n : Nat) : Int) < 9)))] (by kernel_rfl) rfl ?_
  refine VL_end (by kernel_rfl) ?_
  refine VQ_next ?_
  refine VC_dec (((n : Nat) : Int) < 9) (by kernel_rfl) (fun h2 => ?_) (fun h2 => ?_)
  ·refine VC_seq ?_
   refine VC_region ?_
   refine VL_pure 1 [2, 18] [(2, .pointer (some ⟨b1, 0, none⟩)), (18, .agg #[.int .i64 0, .bool false, .int .i64 0, .slice none 0 0])] (by kernel_rfl) rfl ?_
   refine VL_store (b := b1) (o := 0) (vs := [.int .i64 0, .bool false, .int .i64 0, .slice none 0 0]) (by kernel_rfl) (by kernel_rfl) ho1 (Nat.le_of_ble_eq_true (by kernel_rfl)) ?_
   intro w3 hw2
   replace hS := Step.transNew hS hw2.step (fun _ _ _ => by omega)
   replace hA := hA.step hw2.step (fun k hk (hF : k = b1) => by omega)
   have ho3 : Own w3 b1 #[.int .i64 0, .bool false, .int .i64 0, .slice none 0 0] 24 := Own.cast hw2.own (by kernel_rfl)
   have hzhw2 := hw2.same
   refine VL_pure 3 [2, 3] [(2, .pointer (some ⟨b1, 0, none⟩)), (3, .int .i64 2)] (by kernel_rfl) rfl ?_
   refine VL_end (by kernel_rfl) ?_
   refine VQ_next ?_
   refine VC_ret ?_
   refine VQ_block_ret ?_
   refine VQ_then_ret ?_
   refine VQ_retC1T1 (T := 24) (.agg #[.int .i64 0, .bool false, .int .i64 0, .slice none 0 0]) (.int .i64 2) (.inr rfl) rfl rfl rfl (Loads.ownL ho3 (n := 4) (by kernel_rfl) (by kernel_rfl) (by kernel_rfl)) ?_
   exact MuR.no (by first | exact mu_2 (by omega) (by omega) | exact mu_2b (by omega) (by omega) ⟨by omega, by omega, by omega, by omega⟩ (by assumption) (by omega)) (by decide) hS
  ·refine VC_skip ?_
   refine VQ_block_normal ?_
   refine VQ_next ?_
   refine VC_seq ?_
   obtain ⟨sb1, so1, rfl, hlbsb1⟩ := hA.open (by simp only [iL_length]; omega)
   have hs1 := drew_step w1
   have hs1z : w1.heap.size = w1.drew.heap.size := rfl
   refine VC_text [[], [0], [0, 1], [0, 1, 2], [0, 1, 2, 3], [], [5], [5, 6], [5, 6, 7], [5, 6, 7, 8], [0, 1, 2, 3, 4, 5, 6, 7, 8, 9], [], [11], [11, 12], [11, 12, 13], [0, 1, 2, 3, 4, 5, 6, 7, 8, 9, 10, 11, 12, 13, 14], [0, 1, 2, 3, 4, 5, 6, 7, 8, 9, 10, 11, 12, 13, 14, 15]] 15 (fun x y => Step (fun k => w1.heap.size ≤ k) x y) [] [0, 1, 2, 3, 4, 5, 6, 7, 8, 9, 10, 11, 12, 13, 14] (by kernel_rfl) (by kernel_rfl) (by kernel_rfl) (by kernel_rfl) (fun x => Step.refl _ x) (fun h k => Step.trans h k) Step.weak ?_
   have hzs2 := hS.size
   have hzl1 := ho1.lt
   generalize w1.drew = w4 at hs1 hs1z ⊢
   replace hS := Step.trans hS hs1
   replace hA := hA.no hs1
   replace ho1 := ho1.no hs1
   refine VT_pures 1 (kn' := [(0, .slice (some ⟨sb1, so1, none⟩) n c)]) (by kernel_rfl) ?_
   refine VT_index (d := 20) (b := sb1) (o := so1) (len := n) (sz := 1) (mm := 2) (by kernel_rfl) (by kernel_rfl) 2 (by rfl) (by omega) (so1 + 2) (by omega) ?_
   refine VT_load (d := 21) (t := 5) (a := ⟨sb1, so1 + 2, none⟩) (v := .int .u8 (bs.getD 2 0)) (by kernel_rfl) (by kernel_rfl) ?_ ?_
   ·intro w5 hr1
    replace hS := Step.transNew hS hr1 (fun i hi hG => by (try simp only at hG); omega)
    replace hA := hA.keepB hr1 (by (try simp only); omega)
    replace ho1 := ho1.step hr1 (by (try simp only); omega)
    exact (Sl.ldI hA (by kernel_rfl) 2 (by (try simp only [List.length_set, List.length_append, List.length_map, List.length_replicate, List.length_cons, List.length_nil, List.length_take, List.length_drop, List.length_range]) <;> omega))
   refine VT_pures 3 (kn' := [(5, .slice (some ⟨sb1, so1, none⟩) n c), (4, .int .i64 (IntKind.wrap .i64 ((IntKind.wrap .i64 (bs.getD 2 0)) * 2 ^ 16))), (3, .int .i64 (IntKind.wrap .i64 (bs.getD 2 0))), (2, .int .u8 (bs.getD 2 0)), (1, .pointer (some ⟨sb1, so1 + 2, none⟩)), (0, .slice (some ⟨sb1, so1, none⟩) n c)]) (by kernel_rfl) ?_
   refine VT_index (d := 25) (b := sb1) (o := so1) (len := n) (sz := 1) (mm := 3) (by kernel_rfl) (by kernel_rfl) 3 (by rfl) (by omega) (so1 + 3) (by omega) ?_
   refine VT_load (d := 26) (t := 5) (a := ⟨sb1, so1 + 3, none⟩) (v := .int .u8 (bs.getD 3 0)) (by kernel_rfl) (by kernel_rfl) ?_ ?_
   ·intro w6 hr2
    replace hS := Step.transNew hS hr2 (fun i hi hG => by (try simp only at hG); omega)
    replace hA := hA.keepB hr2 (by (try simp only); omega)
    replace ho1 := ho1.step hr2 (by (try simp only); omega)
    exact (Sl.ldI hA (by kernel_rfl) 3 (by (try simp only [List.length_set, List.length_append, List.length_map, List.length_replicate, List.length_cons, List.length_nil, List.length_take, List.length_drop, List.length_range]) <;> omega))
   refine VT_pures 4 (kn' := [(11, .slice (some ⟨sb1, so1, none⟩) n c), (10, .int .i64 (bOr .i64 (IntKind.wrap .i64 ((IntKind.wrap .i64 (bs.getD 2 0)) * 2 ^ 16)) (IntKind.wrap .i64 ((IntKind.wrap .i64 (bs.getD 3 0)) * 2 ^ 8)))), (9, .int .i64 (IntKind.wrap .i64 ((IntKind.wrap .i64 (bs.getD 3 0)) * 2 ^ 8))), (8, .int .i64 (IntKind.wrap .i64 (bs.getD 3 0))), (7, .int .u8 (bs.getD 3 0)), (6, .pointer (some ⟨sb1, so1 + 3, none⟩)), (5, .slice (some ⟨sb1, so1, none⟩) n c), (4, .int .i64 (IntKind.wrap .i64 ((IntKind.wrap .i64 (bs.getD 2 0)) * 2 ^ 16))), (3, .int .i64 (IntKind.wrap .i64 (bs.getD 2 0))), (2, .int .u8 (bs.getD 2 0)), (1, .pointer (some ⟨sb1, so1 + 2, none⟩)), (0, .slice (some ⟨sb1, so1, none⟩) n c)]) (by kernel_rfl) ?_
   refine VT_index (d := 31) (b := sb1) (o := so1) (len := n) (sz := 1) (mm := 4) (by kernel_rfl) (by kernel_rfl) 4 (by rfl) (by omega) (so1 + 4) (by omega) ?_
   refine VT_load (d := 32) (t := 5) (a := ⟨sb1, so1 + 4, none⟩) (v := .int .u8 (bs.getD 4 0)) (by kernel_rfl) (by kernel_rfl) ?_ ?_
   ·intro w7 hr3
    replace hS := Step.transNew hS hr3 (fun i hi hG => by (try simp only at hG); omega)
    replace hA := hA.keepB hr3 (by (try simp only); omega)
    replace ho1 := ho1.step hr3 (by (try simp only); omega)
    exact (Sl.ldI hA (by kernel_rfl) 4 (by (try simp only [List.length_set, List.length_append, List.length_map, List.length_replicate, List.length_cons, List.length_nil, List.length_take, List.length_drop, List.length_range]) <;> omega))
   refine VT_pures 1 (kn' := [(14, .int .i64 (IntKind.wrap .i64 (bs.getD 4 0))), (13, .int .u8 (bs.getD 4 0)), (12, .pointer (some ⟨sb1, so1 + 4, none⟩)), (11, .slice (some ⟨sb1, so1, none⟩) n c), (10, .int .i64 (bOr .i64 (IntKind.wrap .i64 ((IntKind.wrap .i64 (bs.getD 2 0)) * 2 ^ 16)) (IntKind.wrap .i64 ((IntKind.wrap .i64 (bs.getD 3 0)) * 2 ^ 8)))), (9, .int .i64 (IntKind.wrap .i64 ((IntKind.wrap .i64 (bs.getD 3 0)) * 2 ^ 8))), (8, .int .i64 (IntKind.wrap .i64 (bs.getD 3 0))), (7, .int .u8 (bs.getD 3 0)), (6, .pointer (some ⟨sb1, so1 + 3, none⟩)), (5, .slice (some ⟨sb1, so1, none⟩) n c), (4, .int .i64 (IntKind.wrap .i64 ((IntKind.wrap .i64 (bs.getD 2 0)) * 2 ^ 16))), (3, .int .i64 (IntKind.wrap .i64 (bs.getD 2 0))), (2, .int .u8 (bs.getD 2 0)), (1, .pointer (some ⟨sb1, so1 + 2, none⟩)), (0, .slice (some ⟨sb1, so1, none⟩) n c)]) (by kernel_rfl) ?_
   refine VT_end ?_
   intro w8 hs2
   replace hS := Step.trans hS hs2
   replace hA := hA.no hs2
   replace ho1 := ho1.no hs2
   refine VL_keep [0, 2, 29, 33] [(0, .slice (some ⟨sb1, so1, none⟩) n c), (2, .pointer (some ⟨b1, 0, none⟩)), (29, .int .i64 (bOr .i64 (IntKind.wrap .i64 ((IntKind.wrap .i64 (bs.getD 2 0)) * 2 ^ 16)) (IntKind.wrap .i64 ((IntKind.wrap .i64 (bs.getD 3 0)) * 2 ^ 8)))), (33, .int .i64 (IntKind.wrap .i64 (bs.getD 4 0)))] (by kernel_rfl) ?_
   refine VL_pure 16 [0, 2, 34] [(0, .slice (some ⟨sb1, so1, none⟩) n c), (2, .pointer (some ⟨b1, 0, none⟩)), (34, .int .i64 (bOr .i64 (bOr .i64 (IntKind.wrap .i64 ((IntKind.wrap .i64 (bs.getD 2 0)) * 2 ^ 16)) (IntKind.wrap .i64 ((IntKind.wrap .i64 (bs.getD 3 0)) * 2 ^ 8))) (IntKind.wrap .i64 (bs.getD 4 0))))] (by kernel_rfl) rfl ?_
   refine VL_eq [(0, .slice (some ⟨sb1, so1, none⟩) n c), (2, .pointer (some ⟨b1, 0, none⟩)), (34, .int .i64 ((muN bs : Nat) : Int))] (by rw [mu_or hb]) ?_
   refine VL_pure 17 [0, 2, 4] [(0, .slice (some ⟨sb1, so1, none⟩) n c), (2, .pointer (some ⟨b1, 0, none⟩)), (4, .int .i64 ((muN bs : Nat) : Int))] (by kernel_rfl) rfl ?_
   refine VL_end (by kernel_rfl) ?_
   refine VQ_next ?_
   refine VC_seq ?_
   refine VC_region ?_
   refine VL_pure 2 [0, 2, 4, 36] [(0, .slice (some ⟨sb1, so1, none⟩) n c), (2, .pointer (some ⟨b1, 0, none⟩)), (4, .int .i64 ((muN bs : Nat) : Int)), (36, .int .i64 (bAnd .i64 ((muN bs : Nat) : Int) 8388607))] (by kernel_rfl) rfl ?_
   refine VL_eq [(0, .slice (some ⟨sb1, so1, none⟩) n c), (2, .pointer (some ⟨b1, 0, none⟩)), (4, .int .i64 ((muN bs : Nat) : Int)), (36, .int .i64 ((muN bs % 8388608 : Nat) : Int))] (by rw [and_23 _ (by omega)]) ?_
   refine VL_pure 5 [0, 2, 36, 38, 39] [(0, .slice (some ⟨sb1, so1, none⟩) n c), (2, .pointer (some ⟨b1, 0, none⟩)), (36, .int .i64 ((muN bs % 8388608 : Nat) : Int)), (38, .bool (decide (((muN bs : Nat) : Int) > 8388607))), (39, .slice (some ⟨sb1, so1, none⟩) n c)] (by kernel_rfl) rfl ?_
   refine VL_index (d := 40) (b := sb1) (o := so1) (len := n) (sz := 1) (m := 5) (by kernel_rfl) (by kernel_rfl) 5 (by rfl) (by omega) (so1 + 5) (by omega) ?_
   refine VL_load (d := 41) (t := 5) (a := ⟨sb1, so1 + 5, none⟩) (v := .int .u8 (bs.getD 5 0)) (by kernel_rfl) (by kernel_rfl) (Sl.ldI hA (by kernel_rfl) 5 (by (try simp only [List.length_set, List.length_append, List.length_map, List.length_replicate, List.length_cons, List.length_nil, List.length_take, List.length_drop, List.length_range]) <;> omega)) ?_
   refine VL_pure 8 [0, 2, 36, 38, 42] [(0, .slice (some ⟨sb1, so1, none⟩) n c), (2, .pointer (some ⟨b1, 0, none⟩)), (36, .int .i64 ((muN bs % 8388608 : Nat) : Int)), (38, .bool (decide (((muN bs : Nat) : Int) > 8388607))), (42, .int .i64 (IntKind.wrap .i64 (bs.getD 5 0)))] (by kernel_rfl) rfl ?_
   refine VL_eq [(0, .slice (some ⟨sb1, so1, none⟩) n c), (2, .pointer (some ⟨b1, 0, none⟩)), (36, .int .i64 ((muN bs % 8388608 : Nat) : Int)), (38, .bool (decide (((muN bs : Nat) : Int) > 8388607))), (42, .int .i64 (bs.getD 5 0))] (by rw [mk_is hb]) ?_
   refine VL_pure 9 [0, 2, 43] [(0, .slice (some ⟨sb1, so1, none⟩) n c), (2, .pointer (some ⟨b1, 0, none⟩)), (43, .agg #[.int .i64 ((muN bs % 8388608 : Nat) : Int), .bool (decide (((muN bs : Nat) : Int) > 8388607)), .int .i64 (bs.getD 5 0), .slice none 0 0])] (by kernel_rfl) rfl ?_
   have hzs3 := hS.size
   have hzl2 := ho1.lt
   refine VL_box (d := 5) (t := 24) (c := #[.int .i64 0, .bool false, .int .i64 0, .slice none 0 0]) (by kernel_rfl) (by kernel_rfl) ?_
   intro b2 w9 hn2
   replace hS := Step.trans hS (hn2.step No)
   replace hA := hA.no (hn2.step No)
   replace ho1 := ho1.no (hn2.step No)
   have ho4 := hn2.own
   have hzhn2 := hn2.size
   have hqhn2 := hn2.eqb
   refine VL_store (b := b2) (o := 0) (vs := [.int .i64 ((muN bs % 8388608 : Nat) : Int), .bool (decide (((muN bs : Nat) : Int) > 8388607)), .int .i64 (bs.getD 5 0), .slice none 0 0]) (by kernel_rfl) (by kernel_rfl) ho4 (Nat.le_of_ble_eq_true (by kernel_rfl)) ?_
   intro w10 hw3
   replace hS := Step.transNew hS hw3.step (fun _ _ _ => by omega)
   replace hA := hA.keepB hw3.step (show ¬ sb1 = b2 by omega)
   replace ho1 := ho1.step hw3.step (show ¬ b1 = b2 by omega)
   have ho5 : Own w10 b2 #[.int .i64 ((muN bs % 8388608 : Nat) : Int), .bool (decide (((muN bs : Nat) : Int) > 8388607)), .int .i64 (bs.getD 5 0), .slice none 0 0] 24 := Own.cast hw3.own (by kernel_rfl)
   have hzhw3 := hw3.same
   refine VL_end (by kernel_rfl) ?_
   refine VQ_next ?_
   refine VC_seq ?_
   have hs3 := drew_step w10
   have hs3z : w10.heap.size = w10.drew.heap.size := rfl
   refine VC_text [[], [0], [0, 1], [0, 1, 2], [0, 1, 2, 3], [], [5], [5, 6], [5, 6, 7], [0, 1, 2, 3, 4, 5, 6, 7, 8], [0, 1, 2, 3, 4, 5, 6, 7, 8, 9]] 9 (fun x y => Step (fun k => w10.heap.size ≤ k) x y) [] [0, 1, 2, 3, 4, 5, 6, 7, 8] (by kernel_rfl) (by kernel_rfl) (by kernel_rfl) (by kernel_rfl) (fun x => Step.refl _ x) (fun h k => Step.trans h k) Step.weak ?_
   have hzs4 := hS.size
   have hzl3 := ho1.lt
   have hzl4 := ho5.lt
   generalize w10.drew = w11 at hs3 hs3z ⊢
   replace hS := Step.trans hS hs3
   replace hA := hA.no hs3
   replace ho1 := ho1.no hs3
   replace ho5 := ho5.no hs3
   refine VT_pures 1 (kn' := [(0, .slice (some ⟨sb1, so1, none⟩) n c)]) (by kernel_rfl) ?_
   refine VT_index (d := 45) (b := sb1) (o := so1) (len := n) (sz := 1) (mm := 7) (by kernel_rfl) (by kernel_rfl) 7 (by rfl) (by omega) (so1 + 7) (by omega) ?_
   refine VT_load (d := 46) (t := 5) (a := ⟨sb1, so1 + 7, none⟩) (v := .int .u8 (bs.getD 7 0)) (by kernel_rfl) (by kernel_rfl) ?_ ?_
   ·intro w12 hr4
    replace hS := Step.transNew hS hr4 (fun i hi hG => by (try simp only at hG); omega)
    replace hA := hA.keepB hr4 (by (try simp only); omega)
    replace ho1 := ho1.step hr4 (by (try simp only); omega)
    replace ho5 := ho5.step hr4 (by (try simp only); omega)
    exact (Sl.ldI hA (by kernel_rfl) 7 (by (try simp only [List.length_set, List.length_append, List.length_map, List.length_replicate, List.length_cons, List.length_nil, List.length_take, List.length_drop, List.length_range]) <;> omega))
   refine VT_pures 3 (kn' := [(5, .slice (some ⟨sb1, so1, none⟩) n c), (4, .int .i64 (IntKind.wrap .i64 ((IntKind.wrap .i64 (bs.getD 7 0)) * 2 ^ 8))), (3, .int .i64 (IntKind.wrap .i64 (bs.getD 7 0))), (2, .int .u8 (bs.getD 7 0)), (1, .pointer (some ⟨sb1, so1 + 7, none⟩)), (0, .slice (some ⟨sb1, so1, none⟩) n c)]) (by kernel_rfl) ?_
   refine VT_index (d := 50) (b := sb1) (o := so1) (len := n) (sz := 1) (mm := 8) (by kernel_rfl) (by kernel_rfl) 8 (by rfl) (by omega) (so1 + 8) (by omega) ?_
   refine VT_load (d := 51) (t := 5) (a := ⟨sb1, so1 + 8, none⟩) (v := .int .u8 (bs.getD 8 0)) (by kernel_rfl) (by kernel_rfl) ?_ ?_
   ·intro w13 hr5
    replace hS := Step.transNew hS hr5 (fun i hi hG => by (try simp only at hG); omega)
    replace hA := hA.keepB hr5 (by (try simp only); omega)
    replace ho1 := ho1.step hr5 (by (try simp only); omega)
    replace ho5 := ho5.step hr5 (by (try simp only); omega)
    exact (Sl.ldI hA (by kernel_rfl) 8 (by (try simp only [List.length_set, List.length_append, List.length_map, List.length_replicate, List.length_cons, List.length_nil, List.length_take, List.length_drop, List.length_range]) <;> omega))
   refine VT_pures 1 (kn' := [(8, .int .i64 (IntKind.wrap .i64 (bs.getD 8 0))), (7, .int .u8 (bs.getD 8 0)), (6, .pointer (some ⟨sb1, so1 + 8, none⟩)), (5, .slice (some ⟨sb1, so1, none⟩) n c), (4, .int .i64 (IntKind.wrap .i64 ((IntKind.wrap .i64 (bs.getD 7 0)) * 2 ^ 8))), (3, .int .i64 (IntKind.wrap .i64 (bs.getD 7 0))), (2, .int .u8 (bs.getD 7 0)), (1, .pointer (some ⟨sb1, so1 + 7, none⟩)), (0, .slice (some ⟨sb1, so1, none⟩) n c)]) (by kernel_rfl) ?_
   refine VT_end ?_
   intro w14 hs4
   replace hS := Step.trans hS hs4
   replace hA := hA.no hs4
   replace ho1 := ho1.no hs4
   replace ho5 := ho5.no hs4
   refine VL_keep [0, 2, 5, 48, 52] [(0, .slice (some ⟨sb1, so1, none⟩) n c), (2, .pointer (some ⟨b1, 0, none⟩)), (5, .pointer (some ⟨b2, 0, none⟩)), (48, .int .i64 (IntKind.wrap .i64 ((IntKind.wrap .i64 (bs.getD 7 0)) * 2 ^ 8))), (52, .int .i64 (IntKind.wrap .i64 (bs.getD 8 0)))] (by kernel_rfl) ?_
   refine VL_pure 10 [0, 2, 5, 53] [(0, .slice (some ⟨sb1, so1, none⟩) n c), (2, .pointer (some ⟨b1, 0, none⟩)), (5, .pointer (some ⟨b2, 0, none⟩)), (53, .int .i64 (bOr .i64 (IntKind.wrap .i64 ((IntKind.wrap .i64 (bs.getD 7 0)) * 2 ^ 8)) (IntKind.wrap .i64 (bs.getD 8 0))))] (by kernel_rfl) rfl ?_
   refine VL_eq [(0, .slice (some ⟨sb1, so1, none⟩) n c), (2, .pointer (some ⟨b1, 0, none⟩)), (5, .pointer (some ⟨b2, 0, none⟩)), (53, .int .i64 ((muS bs : Nat) : Int))] (by rw [ms_or hb]) ?_
   refine VL_pure 11 [0, 2, 5, 6] [(0, .slice (some ⟨sb1, so1, none⟩) n c), (2, .pointer (some ⟨b1, 0, none⟩)), (5, .pointer (some ⟨b2, 0, none⟩)), (6, .int .i64 ((muS bs : Nat) : Int))] (by kernel_rfl) rfl ?_
   refine VL_end (by kernel_rfl) ?_
   refine VQ_next ?_
   refine VC_seq ?_
   refine VC_block ?_
   refine VC_seq ?_
   refine VC_region ?_
   refine VL_pure 1 [0, 2, 5, 6, 55] [(0, .slice (some ⟨sb1, so1, none⟩) n c), (2, .pointer (some ⟨b1, 0, none⟩)), (5, .pointer (some ⟨b2, 0, none⟩)), (6, .int .i64 ((muS bs : Nat) : Int)), (55, .slice (some ⟨sb1, so1, none⟩) n c)] (by kernel_rfl) rfl ?_
   refine VL_index (d := 56) (b := sb1) (o := so1) (len := n) (sz := 1) (m := 0) (by kernel_rfl) (by kernel_rfl) 0 (by rfl) (by omega) so1 (by omega) ?_
   refine VL_load (d := 57) (t := 5) (a := ⟨sb1, so1, none⟩) (v := .int .u8 (bs.getD 0 0)) (by kernel_rfl) (by kernel_rfl) (Sl.ldI hA (by kernel_rfl) 0 (by (try simp only [List.length_set, List.length_append, List.length_map, List.length_replicate, List.length_cons, List.length_nil, List.length_take, List.length_drop, List.length_range]) <;> omega)) ?_
   refine VL_pure 5 [0, 2, 5, 6, 59] [(0, .slice (some ⟨sb1, so1, none⟩) n c), (2, .pointer (some ⟨b1, 0, none⟩)), (5, .pointer (some ⟨b2, 0, none⟩)), (6, .int .i64 ((muS bs : Nat) : Int)), (59, .bool ((bs.getD 0 0) != 9))] (by kernel_rfl) rfl ?_
   refine VL_bne (bs.getD 0 0) 9 (fun bV => [(0, .slice (some ⟨sb1, so1, none⟩) n c), (2, .pointer (some ⟨b1, 0, none⟩)), (5, .pointer (some ⟨b2, 0, none⟩)), (6, .int .i64 ((muS bs : Nat) : Int)), (59, .bool bV)]) rfl (fun hg1 => ?_) (fun hg1 => ?_)
   ·refine VL_pure 22 [0, 2, 5, 6, 54] [(0, .slice (some ⟨sb1, so1, none⟩) n c), (2, .pointer (some ⟨b1, 0, none⟩)), (5, .pointer (some ⟨b2, 0, none⟩)), (6, .int .i64 ((muS bs : Nat) : Int)), (54, .bool true)] (by kernel_rfl) rfl ?_
    refine VL_end (by kernel_rfl) ?_
    refine VQ_next ?_
    refine VC_true (by kernel_rfl) ?_
    refine VC_seq ?_
    refine VC_region ?_
    refine VL_pure 1 [2, 76] [(2, .pointer (some ⟨b1, 0, none⟩)), (76, .agg #[.int .i64 0, .bool false, .int .i64 0, .slice none 0 0])] (by kernel_rfl) rfl ?_
    refine VL_store (b := b1) (o := 0) (vs := [.int .i64 0, .bool false, .int .i64 0, .slice none 0 0]) (by kernel_rfl) (by kernel_rfl) ho1 (Nat.le_of_ble_eq_true (by kernel_rfl)) ?_
    intro w15 hw4
    replace hS := Step.transNew hS hw4.step (fun _ _ _ => by omega)
    replace hA := hA.keepB hw4.step (show ¬ sb1 = b1 by omega)
    replace ho5 := ho5.step hw4.step (show ¬ b2 = b1 by omega)
    have ho6 : Own w15 b1 #[.int .i64 0, .bool false, .int .i64 0, .slice none 0 0] 24 := Own.cast hw4.own (by kernel_rfl)
    have hzhw4 := hw4.same
    refine VL_pure 3 [2, 3] [(2, .pointer (some ⟨b1, 0, none⟩)), (3, .int .i64 5)] (by kernel_rfl) rfl ?_
    refine VL_end (by kernel_rfl) ?_
    refine VQ_next ?_
    refine VC_ret ?_
    refine VQ_block_ret ?_
    refine VQ_then_ret ?_
    refine VQ_retC1T1 (T := 24) (.agg #[.int .i64 0, .bool false, .int .i64 0, .slice none 0 0]) (.int .i64 5) (.inr rfl) rfl rfl rfl (Loads.ownL ho6 (n := 4) (by kernel_rfl) (by kernel_rfl) (by kernel_rfl)) ?_
    exact MuR.no (by exact mu_5 (by omega) (by omega) (fun ⟨a, b, c, d⟩ => by omega)) (by decide) hS
   ·refine VL_pure 6 [0, 2, 5, 6, 59, 60] [(0, .slice (some ⟨sb1, so1, none⟩) n c), (2, .pointer (some ⟨b1, 0, none⟩)), (5, .pointer (some ⟨b2, 0, none⟩)), (6, .int .i64 ((muS bs : Nat) : Int)), (59, .bool false), (60, .slice (some ⟨sb1, so1, none⟩) n c)] (by kernel_rfl) rfl ?_
    refine VL_index (d := 61) (b := sb1) (o := so1) (len := n) (sz := 1) (m := 1) (by kernel_rfl) (by kernel_rfl) 1 (by rfl) (by omega) (so1 + 1) (by omega) ?_
    refine VL_load (d := 62) (t := 5) (a := ⟨sb1, so1 + 1, none⟩) (v := .int .u8 (bs.getD 1 0)) (by kernel_rfl) (by kernel_rfl) (Sl.ldI hA (by kernel_rfl) 1 (by (try simp only [List.length_set, List.length_append, List.length_map, List.length_replicate, List.length_cons, List.length_nil, List.length_take, List.length_drop, List.length_range]) <;> omega)) ?_
    refine VL_pure 11 [0, 2, 5, 6, 65] [(0, .slice (some ⟨sb1, so1, none⟩) n c), (2, .pointer (some ⟨b1, 0, none⟩)), (5, .pointer (some ⟨b2, 0, none⟩)), (6, .int .i64 ((muS bs : Nat) : Int)), (65, .bool ((bs.getD 1 0) != 3))] (by kernel_rfl) rfl ?_
    refine VL_bne (bs.getD 1 0) 3 (fun bV => [(0, .slice (some ⟨sb1, so1, none⟩) n c), (2, .pointer (some ⟨b1, 0, none⟩)), (5, .pointer (some ⟨b2, 0, none⟩)), (6, .int .i64 ((muS bs : Nat) : Int)), (65, .bool bV)]) rfl (fun hg2 => ?_) (fun hg2 => ?_)
    ·refine VL_pure 22 [0, 2, 5, 6, 54] [(0, .slice (some ⟨sb1, so1, none⟩) n c), (2, .pointer (some ⟨b1, 0, none⟩)), (5, .pointer (some ⟨b2, 0, none⟩)), (6, .int .i64 ((muS bs : Nat) : Int)), (54, .bool true)] (by kernel_rfl) rfl ?_
     refine VL_end (by kernel_rfl) ?_
     refine VQ_next ?_
     refine VC_true (by kernel_rfl) ?_
     refine VC_seq ?_
     refine VC_region ?_
     refine VL_pure 1 [2, 76] [(2, .pointer (some ⟨b1, 0, none⟩)), (76, .agg #[.int .i64 0, .bool false, .int .i64 0, .slice none 0 0])] (by kernel_rfl) rfl ?_
     refine VL_store (b := b1) (o := 0) (vs := [.int .i64 0, .bool false, .int .i64 0, .slice none 0 0]) (by kernel_rfl) (by kernel_rfl) ho1 (Nat.le_of_ble_eq_true (by kernel_rfl)) ?_
     intro w16 hw5
     replace hS := Step.transNew hS hw5.step (fun _ _ _ => by omega)
     replace hA := hA.keepB hw5.step (show ¬ sb1 = b1 by omega)
     replace ho5 := ho5.step hw5.step (show ¬ b2 = b1 by omega)
     have ho7 : Own w16 b1 #[.int .i64 0, .bool false, .int .i64 0, .slice none 0 0] 24 := Own.cast hw5.own (by kernel_rfl)
     have hzhw5 := hw5.same
     refine VL_pure 3 [2, 3] [(2, .pointer (some ⟨b1, 0, none⟩)), (3, .int .i64 5)] (by kernel_rfl) rfl ?_
     refine VL_end (by kernel_rfl) ?_
     refine VQ_next ?_
     refine VC_ret ?_
     refine VQ_block_ret ?_
     refine VQ_then_ret ?_
     refine VQ_retC1T1 (T := 24) (.agg #[.int .i64 0, .bool false, .int .i64 0, .slice none 0 0]) (.int .i64 5) (.inr rfl) rfl rfl rfl (Loads.ownL ho7 (n := 4) (by kernel_rfl) (by kernel_rfl) (by kernel_rfl)) ?_
     exact MuR.no (by exact mu_5 (by omega) (by omega) (fun ⟨a, b, c, d⟩ => by omega)) (by decide) hS
    ·refine VL_pure 12 [0, 2, 5, 6, 65, 66] [(0, .slice (some ⟨sb1, so1, none⟩) n c), (2, .pointer (some ⟨b1, 0, none⟩)), (5, .pointer (some ⟨b2, 0, none⟩)), (6, .int .i64 ((muS bs : Nat) : Int)), (65, .bool false), (66, .slice (some ⟨sb1, so1, none⟩) n c)] (by kernel_rfl) rfl ?_
     refine VL_index (d := 67) (b := sb1) (o := so1) (len := n) (sz := 1) (m := 6) (by kernel_rfl) (by kernel_rfl) 6 (by rfl) (by omega) (so1 + 6) (by omega) ?_
     refine VL_load (d := 68) (t := 5) (a := ⟨sb1, so1 + 6, none⟩) (v := .int .u8 (bs.getD 6 0)) (by kernel_rfl) (by kernel_rfl) (Sl.ldI hA (by kernel_rfl) 6 (by (try simp only [List.length_set, List.length_append, List.length_map, List.length_replicate, List.length_cons, List.length_nil, List.length_take, List.length_drop, List.length_range]) <;> omega)) ?_
     refine VL_pure 17 [0, 2, 5, 6, 71] [(0, .slice (some ⟨sb1, so1, none⟩) n c), (2, .pointer (some ⟨b1, 0, none⟩)), (5, .pointer (some ⟨b2, 0, none⟩)), (6, .int .i64 ((muS bs : Nat) : Int)), (71, .bool ((bs.getD 6 0) != 128))] (by kernel_rfl) rfl ?_
     refine VL_bne (bs.getD 6 0) 128 (fun bV => [(0, .slice (some ⟨sb1, so1, none⟩) n c), (2, .pointer (some ⟨b1, 0, none⟩)), (5, .pointer (some ⟨b2, 0, none⟩)), (6, .int .i64 ((muS bs : Nat) : Int)), (71, .bool bV)]) rfl (fun hg3 => ?_) (fun hg3 => ?_)
     ·refine VL_pure 22 [0, 2, 5, 6, 54] [(0, .slice (some ⟨sb1, so1, none⟩) n c), (2, .pointer (some ⟨b1, 0, none⟩)), (5, .pointer (some ⟨b2, 0, none⟩)), (6, .int .i64 ((muS bs : Nat) : Int)), (54, .bool true)] (by kernel_rfl) rfl ?_
      refine VL_end (by kernel_rfl) ?_
      refine VQ_next ?_
      refine VC_true (by kernel_rfl) ?_
      refine VC_seq ?_
      refine VC_region ?_
      refine VL_pure 1 [2, 76] [(2, .pointer (some ⟨b1, 0, none⟩)), (76, .agg #[.int .i64 0, .bool false, .int .i64 0, .slice none 0 0])] (by kernel_rfl) rfl ?_
      refine VL_store (b := b1) (o := 0) (vs := [.int .i64 0, .bool false, .int .i64 0, .slice none 0 0]) (by kernel_rfl) (by kernel_rfl) ho1 (Nat.le_of_ble_eq_true (by kernel_rfl)) ?_
      intro w17 hw6
      replace hS := Step.transNew hS hw6.step (fun _ _ _ => by omega)
      replace hA := hA.keepB hw6.step (show ¬ sb1 = b1 by omega)
      replace ho5 := ho5.step hw6.step (show ¬ b2 = b1 by omega)
      have ho8 : Own w17 b1 #[.int .i64 0, .bool false, .int .i64 0, .slice none 0 0] 24 := Own.cast hw6.own (by kernel_rfl)
      have hzhw6 := hw6.same
      refine VL_pure 3 [2, 3] [(2, .pointer (some ⟨b1, 0, none⟩)), (3, .int .i64 5)] (by kernel_rfl) rfl ?_
      refine VL_end (by kernel_rfl) ?_
      refine VQ_next ?_
      refine VC_ret ?_
      refine VQ_block_ret ?_
      refine VQ_then_ret ?_
      refine VQ_retC1T1 (T := 24) (.agg #[.int .i64 0, .bool false, .int .i64 0, .slice none 0 0]) (.int .i64 5) (.inr rfl) rfl rfl rfl (Loads.ownL ho8 (n := 4) (by kernel_rfl) (by kernel_rfl) (by kernel_rfl)) ?_
      exact MuR.no (by exact mu_5 (by omega) (by omega) (fun ⟨a, b, c, d⟩ => by omega)) (by decide) hS
     ·refine VL_pure 18 [0, 2, 5, 6, 71, 72] [(0, .slice (some ⟨sb1, so1, none⟩) n c), (2, .pointer (some ⟨b1, 0, none⟩)), (5, .pointer (some ⟨b2, 0, none⟩)), (6, .int .i64 ((muS bs : Nat) : Int)), (71, .bool false), (72, .pointer (some ⟨b2, 0, none⟩))] (by kernel_rfl) rfl ?_
      refine VL_load (d := 73) (t := 3) (a := ⟨b2, 0, none⟩) (v := .int .i64 ((muN bs % 8388608 : Nat) : Int)) (by kernel_rfl) (by kernel_rfl) (Loads.own1 ho5 (by kernel_rfl) (by rfl)) ?_
      refine VL_pure 22 [0, 2, 5, 6, 54] [(0, .slice (some ⟨sb1, so1, none⟩) n c), (2, .pointer (some ⟨b1, 0, none⟩)), (5, .pointer (some ⟨b2, 0, none⟩)), (6, .int .i64 ((muS bs : Nat) : Int)), (54, .bool (((muN bs % 8388608 : Nat) : Int) == 0))] (by kernel_rfl) rfl ?_
      refine VL_end (by kernel_rfl) ?_
      refine VQ_next ?_
      refine VC_eq ((muN bs % 8388608 : Nat) : Int) 0 (by kernel_rfl) (fun h3 => ?_) (fun h3 => ?_)
      ·refine VC_seq ?_
       refine VC_region ?_
       refine VL_pure 1 [2, 76] [(2, .pointer (some ⟨b1, 0, none⟩)), (76, .agg #[.int .i64 0, .bool false, .int .i64 0, .slice none 0 0])] (by kernel_rfl) rfl ?_
       refine VL_store (b := b1) (o := 0) (vs := [.int .i64 0, .bool false, .int .i64 0, .slice none 0 0]) (by kernel_rfl) (by kernel_rfl) ho1 (Nat.le_of_ble_eq_true (by kernel_rfl)) ?_
       intro w18 hw7
       replace hS := Step.transNew hS hw7.step (fun _ _ _ => by omega)
       replace hA := hA.keepB hw7.step (show ¬ sb1 = b1 by omega)
       replace ho5 := ho5.step hw7.step (show ¬ b2 = b1 by omega)
       have ho9 : Own w18 b1 #[.int .i64 0, .bool false, .int .i64 0, .slice none 0 0] 24 := Own.cast hw7.own (by kernel_rfl)
       have hzhw7 := hw7.same
       refine VL_pure 3 [2, 3] [(2, .pointer (some ⟨b1, 0, none⟩)), (3, .int .i64 5)] (by kernel_rfl) rfl ?_
       refine VL_end (by kernel_rfl) ?_
       refine VQ_next ?_
       refine VC_ret ?_
       refine VQ_block_ret ?_
       refine VQ_then_ret ?_
       refine VQ_retC1T1 (T := 24) (.agg #[.int .i64 0, .bool false, .int .i64 0, .slice none 0 0]) (.int .i64 5) (.inr rfl) rfl rfl rfl (Loads.ownL ho9 (n := 4) (by kernel_rfl) (by kernel_rfl) (by kernel_rfl)) ?_
       exact MuR.no (by exact mu_5 (by omega) (by omega) (fun ⟨a, b, c, d⟩ => by omega)) (by decide) hS
      ·refine VC_seq ?_
       refine VC_region ?_
       refine VL_pure 1 [0, 2, 5, 6, 78] [(0, .slice (some ⟨sb1, so1, none⟩) n c), (2, .pointer (some ⟨b1, 0, none⟩)), (5, .pointer (some ⟨b2, 0, none⟩)), (6, .int .i64 ((muS bs : Nat) : Int)), (78, .pointer (some ⟨b2, 2, none⟩))] (by kernel_rfl) rfl ?_
       refine VL_load (d := 79) (t := 3) (a := ⟨b2, 2, none⟩) (v := .int .i64 (bs.getD 5 0)) (by kernel_rfl) (by kernel_rfl) (Loads.own1 ho5 (by kernel_rfl) (by rfl)) ?_
       have hzs5 := hS.size
       have hzl5 := ho1.lt
       have hzl6 := ho5.lt
       refine VL_call (d := 80) (f := 30) (args := #[.int .i64 (bs.getD 5 0)]) (by kernel_rfl) (by kernel_rfl) (by kernel_rfl) Try.call30 (known_any (bs.getD 5 0) _) ?_
       rintro _ w19 ⟨rfl, hc1⟩
       replace hS := Step.trans hS hc1
       replace hA := hA.no hc1
       replace ho1 := ho1.no hc1
       replace ho5 := ho5.no hc1
       refine VL_pure 5 [0, 2, 5, 6, 77] [(0, .slice (some ⟨sb1, so1, none⟩) n c), (2, .pointer (some ⟨b1, 0, none⟩)), (5, .pointer (some ⟨b2, 0, none⟩)), (6, .int .i64 ((muS bs : Nat) : Int)), (77, .bool (!(knownB (bs.getD 5 0))))] (by kernel_rfl) rfl ?_
       refine VL_end (by kernel_rfl) ?_
       refine VQ_next ?_
       refine VC_cond (!(knownB (bs.getD 5 0))) (by kernel_rfl) (fun h4 => ?_) (fun h4 => ?_)
       ·try simp only [Bool.and_eq_true, Bool.or_eq_true, decide_eq_true_eq, Bool.not_eq_true', decide_eq_false_iff_not, Bool.and_eq_false_iff, Bool.or_eq_false_iff, beq_iff_eq, bne_iff_ne, beq_eq_false_iff_ne, bne_eq_false_iff_eq, Bool.not_eq_eq_eq_not, Bool.not_true, Bool.not_false] at h4
        refine VC_seq ?_
        refine VC_region ?_
        refine VL_pure 1 [2, 82] [(2, .pointer (some ⟨b1, 0, none⟩)), (82, .agg #[.int .i64 0, .bool false, .int .i64 0, .slice none 0 0])] (by kernel_rfl) rfl ?_
        refine VL_store (b := b1) (o := 0) (vs := [.int .i64 0, .bool false, .int .i64 0, .slice none 0 0]) (by kernel_rfl) (by kernel_rfl) ho1 (Nat.le_of_ble_eq_true (by kernel_rfl)) ?_
        intro w20 hw8
        replace hS := Step.transNew hS hw8.step (fun _ _ _ => by omega)
        replace hA := hA.keepB hw8.step (show ¬ sb1 = b1 by omega)
        replace ho5 := ho5.step hw8.step (show ¬ b2 = b1 by omega)
        have ho10 : Own w20 b1 #[.int .i64 0, .bool false, .int .i64 0, .slice none 0 0] 24 := Own.cast hw8.own (by kernel_rfl)
        have hzhw8 := hw8.same
        refine VL_pure 3 [2, 3] [(2, .pointer (some ⟨b1, 0, none⟩)), (3, .int .i64 12)] (by kernel_rfl) rfl ?_
        refine VL_end (by kernel_rfl) ?_
        refine VQ_next ?_
        refine VC_ret ?_
        refine VQ_block_ret ?_
        refine VQ_then_ret ?_
        refine VQ_retC1T1 (T := 24) (.agg #[.int .i64 0, .bool false, .int .i64 0, .slice none 0 0]) (.int .i64 12) (.inr rfl) rfl rfl rfl (Loads.ownL ho10 (n := 4) (by kernel_rfl) (by kernel_rfl) (by kernel_rfl)) ?_
        exact MuR.no (by exact mu_12 (by omega) (by omega) ⟨by omega, by omega, by omega, by omega⟩ (by assumption)) (by decide) hS
       ·try simp only [Bool.and_eq_true, Bool.or_eq_true, decide_eq_true_eq, Bool.not_eq_true', decide_eq_false_iff_not, Bool.and_eq_false_iff, Bool.or_eq_false_iff, beq_iff_eq, bne_iff_ne, beq_eq_false_iff_ne, bne_eq_false_iff_eq, Bool.not_eq_eq_eq_not, Bool.not_true, Bool.not_false] at h4
        refine VC_seq ?_
        refine VC_region ?_
        refine VL_pure 3 [0, 2, 5, 6, 86] [(0, .slice (some ⟨sb1, so1, none⟩) n c), (2, .pointer (some ⟨b1, 0, none⟩)), (5, .pointer (some ⟨b2, 0, none⟩)), (6, .int .i64 ((muS bs : Nat) : Int)), (86, .int .i64 (IntKind.wrap .i64 (((n : Nat) : Int) - 9)))] (by kernel_rfl) rfl ?_
        have he1 : IntKind.wrap .i64 (((n : Nat) : Int) - 9) = ((n - 9 : Nat) : Int) := (by rw [wrap_i64 _ (by omega) (by omega)]; omega)
        refine VL_eq [(0, .slice (some ⟨sb1, so1, none⟩) n c), (2, .pointer (some ⟨b1, 0, none⟩)), (5, .pointer (some ⟨b2, 0, none⟩)), (6, .int .i64 ((muS bs : Nat) : Int)), (86, .int .i64 ((n - 9 : Nat) : Int))] (by rw [he1]) ?_
        refine VL_pure 6 [0, 2, 5, 6, 83] [(0, .slice (some ⟨sb1, so1, none⟩) n c), (2, .pointer (some ⟨b1, 0, none⟩)), (5, .pointer (some ⟨b2, 0, none⟩)), (6, .int .i64 ((muS bs : Nat) : Int)), (83, .bool (decide (((n - 9 : Nat) : Int) < ((muS bs : Nat) : Int))))] (by kernel_rfl) rfl ?_
        refine VL_end (by kernel_rfl) ?_
        refine VQ_next ?_
        refine VC_dec (((n - 9 : Nat) : Int) < ((muS bs : Nat) : Int)) (by kernel_rfl) (fun h5 => ?_) (fun h5 => ?_)
        ·refine VC_seq ?_
         refine VC_region ?_
         refine VL_pure 1 [2, 89] [(2, .pointer (some ⟨b1, 0, none⟩)), (89, .agg #[.int .i64 0, .bool false, .int .i64 0, .slice none 0 0])] (by kernel_rfl) rfl ?_
         refine VL_store (b := b1) (o := 0) (vs := [.int .i64 0, .bool false, .int .i64 0, .slice none 0 0]) (by kernel_rfl) (by kernel_rfl) ho1 (Nat.le_of_ble_eq_true (by kernel_rfl)) ?_
         intro w21 hw9
         replace hS := Step.transNew hS hw9.step (fun _ _ _ => by omega)
         replace hA := hA.keepB hw9.step (show ¬ sb1 = b1 by omega)
         replace ho5 := ho5.step hw9.step (show ¬ b2 = b1 by omega)
         have ho11 : Own w21 b1 #[.int .i64 0, .bool false, .int .i64 0, .slice none 0 0] 24 := Own.cast hw9.own (by kernel_rfl)
         have hzhw9 := hw9.same
         refine VL_pure 3 [2, 3] [(2, .pointer (some ⟨b1, 0, none⟩)), (3, .int .i64 2)] (by kernel_rfl) rfl ?_
         refine VL_end (by kernel_rfl) ?_
         refine VQ_next ?_
         refine VC_ret ?_
         refine VQ_block_ret ?_
         refine VQ_then_ret ?_
         refine VQ_retC1T1 (T := 24) (.agg #[.int .i64 0, .bool false, .int .i64 0, .slice none 0 0]) (.int .i64 2) (.inr rfl) rfl rfl rfl (Loads.ownL ho11 (n := 4) (by kernel_rfl) (by kernel_rfl) (by kernel_rfl)) ?_
         exact MuR.no (by first | exact mu_2 (by omega) (by omega) | exact mu_2b (by omega) (by omega) ⟨by omega, by omega, by omega, by omega⟩ (by assumption) (by omega)) (by decide) hS
        ·refine VC_seq ?_
         refine VC_region ?_
         refine VL_pure 3 [0, 2, 5, 6, 93] [(0, .slice (some ⟨sb1, so1, none⟩) n c), (2, .pointer (some ⟨b1, 0, none⟩)), (5, .pointer (some ⟨b2, 0, none⟩)), (6, .int .i64 ((muS bs : Nat) : Int)), (93, .int .i64 (IntKind.wrap .i64 (((n : Nat) : Int) - 9)))] (by kernel_rfl) rfl ?_
         have he2 : IntKind.wrap .i64 (((n : Nat) : Int) - 9) = ((n - 9 : Nat) : Int) := (by rw [wrap_i64 _ (by omega) (by omega)]; omega)
         refine VL_eq [(0, .slice (some ⟨sb1, so1, none⟩) n c), (2, .pointer (some ⟨b1, 0, none⟩)), (5, .pointer (some ⟨b2, 0, none⟩)), (6, .int .i64 ((muS bs : Nat) : Int)), (93, .int .i64 ((n - 9 : Nat) : Int))] (by rw [he2]) ?_
         refine VL_pure 6 [0, 2, 5, 90] [(0, .slice (some ⟨sb1, so1, none⟩) n c), (2, .pointer (some ⟨b1, 0, none⟩)), (5, .pointer (some ⟨b2, 0, none⟩)), (90, .bool (decide (((n - 9 : Nat) : Int) > ((muS bs : Nat) : Int))))] (by kernel_rfl) rfl ?_
         refine VL_end (by kernel_rfl) ?_
         refine VQ_next ?_
         refine VC_dec (((n - 9 : Nat) : Int) > ((muS bs : Nat) : Int)) (by kernel_rfl) (fun h6 => ?_) (fun h6 => ?_)
         ·refine VC_seq ?_
          refine VC_region ?_
          refine VL_pure 1 [2, 96] [(2, .pointer (some ⟨b1, 0, none⟩)), (96, .agg #[.int .i64 0, .bool false, .int .i64 0, .slice none 0 0])] (by kernel_rfl) rfl ?_
          refine VL_store (b := b1) (o := 0) (vs := [.int .i64 0, .bool false, .int .i64 0, .slice none 0 0]) (by kernel_rfl) (by kernel_rfl) ho1 (Nat.le_of_ble_eq_true (by kernel_rfl)) ?_
          intro w22 hw10
          replace hS := Step.transNew hS hw10.step (fun _ _ _ => by omega)
          replace hA := hA.keepB hw10.step (show ¬ sb1 = b1 by omega)
          replace ho5 := ho5.step hw10.step (show ¬ b2 = b1 by omega)
          have ho12 : Own w22 b1 #[.int .i64 0, .bool false, .int .i64 0, .slice none 0 0] 24 := Own.cast hw10.own (by kernel_rfl)
          have hzhw10 := hw10.same
          refine VL_pure 3 [2, 3] [(2, .pointer (some ⟨b1, 0, none⟩)), (3, .int .i64 3)] (by kernel_rfl) rfl ?_
          refine VL_end (by kernel_rfl) ?_
          refine VQ_next ?_
          refine VC_ret ?_
          refine VQ_block_ret ?_
          refine VQ_then_ret ?_
          refine VQ_retC1T1 (T := 24) (.agg #[.int .i64 0, .bool false, .int .i64 0, .slice none 0 0]) (.int .i64 3) (.inr rfl) rfl rfl rfl (Loads.ownL ho12 (n := 4) (by kernel_rfl) (by kernel_rfl) (by kernel_rfl)) ?_
          exact MuR.no (by exact mu_3 (by omega) (by omega) ⟨by omega, by omega, by omega, by omega⟩ (by assumption) (by omega)) (by decide) hS
         ·refine VC_skip ?_
          refine VQ_block_normal ?_
          refine VQ_next ?_
          refine VC_seq ?_
          refine VC_region ?_
          refine VL_pure 1 [2, 5, 98] [(2, .pointer (some ⟨b1, 0, none⟩)), (5, .pointer (some ⟨b2, 0, none⟩)), (98, .slice (some ⟨sb1, so1, none⟩) n c)] (by kernel_rfl) rfl ?_
          obtain ⟨so2, hso2⟩ : ∃ x, (if c = 9 then so1 else so1 + 9 * 1) = x := ⟨_, rfl⟩
          refine VL_slice (d := 99) (b := sb1) (o := so1) (sz := 1) (len := n) (cap := c) (lo := (some 9)) (hi := none) (mx := none) (by kernel_rfl) (by kernel_rfl) (fun h => by first | exact absurd rfl h | exact (fun h => by cases h)) 9 n c rfl rfl rfl (by omega) (by omega) (by omega) so2 hso2 (n - 9) (by omega) (c - 9) (by omega) ?_
          try (have so2q := hso2; rw [if_neg (by omega)] at so2q)
          have hsl1 := Sl.cutI (H := n) hA hso2 (by omega)
          replace hsl1 := Sl.cast hsl1 (congrArg (iL .u8) (List.take_of_length_le (by rw [List.length_drop]; omega)))
          have hzs6 := hS.size
          have hzl7 := ho1.lt
          have hzl8 := ho5.lt
          refine VL_call (d := 100) (f := 31) (by kernel_rfl) (by kernel_rfl) (by kernel_rfl) Try.call31 (unpack_any (some ⟨sb1, so2, none⟩) (n - 9) (c - 9) _ (bs.drop 9) _ (by rw [List.length_drop]; omega) hsl1 (by omega) (hb.drop _) (by omega) (by first | exact Nat.le_refl _ | omega)) ?_
          rintro _ w23 ⟨Ai1, ci1, li1, rfl, hv1, hI1, hc2⟩
          replace hS := Step.trans hS hc2
          replace hA := hA.no hc2
          replace ho1 := ho1.no hc2
          replace ho5 := ho5.no hc2
          replace hsl1 := hsl1.no hc2
          have hleli1 : w23.heap.size ≤ w23.heap.size := Nat.le_refl _
          have hV1 := Ier.ies hI1
          have hcntli1 : li1.length ≤ 16 := by have hq9 := ieU_count (bs.drop 9) [] (by simp); rw [← vals_len, hv1]; exact hq9
          have hcali1 : li1.length ≤ ci1 := RwS.cap hI1.row
          have hibli1 : ∀ x ∈ li1, IeB x := un_ieb hv1 (hb.drop _)
          have hsmli1 : ∀ x ∈ li1, x.n ≤ 200 := un_small hV1 hv1 (hb.drop _)
          refine VL_pure 8 [2, 5, 7, 8] [(2, .pointer (some ⟨b1, 0, none⟩)), (5, .pointer (some ⟨b2, 0, none⟩)), (7, .slice Ai1 li1.length ci1), (8, .int .i64 (ieUE (bs.drop 9)))] (by kernel_rfl) rfl ?_
          refine VL_end (by kernel_rfl) ?_
          refine VQ_next ?_
          refine VC_seq ?_
          refine VC_seq ?_
          refine VC_region ?_
          refine VL_pure 2 [2, 5, 7, 8, 104] [(2, .pointer (some ⟨b1, 0, none⟩)), (5, .pointer (some ⟨b2, 0, none⟩)), (7, .slice Ai1 li1.length ci1), (8, .int .i64 (ieUE (bs.drop 9))), (104, .bool ((ieUE (bs.drop 9)) != 0))] (by kernel_rfl) rfl ?_
          refine VL_end (by kernel_rfl) ?_
          refine VQ_next ?_
          refine VC_ne (ieUE (bs.drop 9)) 0 (by kernel_rfl) (fun h7 => ?_) (fun h7 => ?_)
          ·refine VC_seq ?_
           refine VC_region ?_
           refine VL_pure 2 [2, 105, 106] [(2, .pointer (some ⟨b1, 0, none⟩)), (105, .agg #[.int .i64 0, .bool false, .int .i64 0, .slice none 0 0]), (106, .int .i64 (ieUE (bs.drop 9)))] (by kernel_rfl) rfl ?_
           refine VL_store (b := b1) (o := 0) (vs := [.int .i64 0, .bool false, .int .i64 0, .slice none 0 0]) (by kernel_rfl) (by kernel_rfl) ho1 (Nat.le_of_ble_eq_true (by kernel_rfl)) ?_
           intro w24 hw11
           replace hS := Step.transNew hS hw11.step (fun _ _ _ => by omega)
           replace hA := hA.keepB hw11.step (show ¬ sb1 = b1 by omega)
           replace ho5 := ho5.step hw11.step (show ¬ b2 = b1 by omega)
           replace hsl1 := hsl1.keepB hw11.step (show ¬ sb1 = b1 by omega)
           replace hV1 := hV1.step hw11.step (fun k hk1 hk2 (hF : k = b1) => by omega)
           replace hleli1 := Nat.le_trans hleli1 (hw11.step).size
           replace hI1 := hI1.keepT ho1 (by decide) (by decide) hw11.step
           have ho13 : Own w24 b1 #[.int .i64 0, .bool false, .int .i64 0, .slice none 0 0] 24 := Own.cast hw11.own (by kernel_rfl)
           have hzhw11 := hw11.same
           refine VL_pure 4 [2, 3] [(2, .pointer (some ⟨b1, 0, none⟩)), (3, .int .i64 (ieUE (bs.drop 9)))] (by kernel_rfl) rfl ?_
           refine VL_end (by kernel_rfl) ?_
           refine VQ_next ?_
           refine VC_ret ?_
           refine VQ_then_ret ?_
           refine VQ_retC1T1 (T := 24) (.agg #[.int .i64 0, .bool false, .int .i64 0, .slice none 0 0]) (.int .i64 (ieUE (bs.drop 9))) (.inr rfl) rfl rfl rfl (Loads.ownL ho13 (n := 4) (by kernel_rfl) (by kernel_rfl) (by kernel_rfl)) ?_
           exact MuR.no (mu_i (by omega) (by omega) ⟨by omega, by omega, by omega, by omega⟩ (by assumption) (by omega)) (by assumption) hS
          ·refine VC_skip ?_
           refine VQ_next ?_
           refine VC_seq ?_
           refine VC_region ?_
           refine VL_pure 2 [2, 5, 107, 108] [(2, .pointer (some ⟨b1, 0, none⟩)), (5, .pointer (some ⟨b2, 0, none⟩)), (107, .slice Ai1 li1.length ci1), (108, .pointer (some ⟨b2, 3, none⟩))] (by kernel_rfl) rfl ?_
           refine VL_store (b := b2) (o := 3) (vs := [.slice Ai1 li1.length ci1]) (by kernel_rfl) (by kernel_rfl) ho5 (Nat.le_of_ble_eq_true (by kernel_rfl)) ?_
           intro w25 hw12
           replace hS := Step.transNew hS hw12.step (fun _ _ _ => by omega)
           replace hA := hA.keepB hw12.step (show ¬ sb1 = b2 by omega)
           replace ho1 := ho1.step hw12.step (show ¬ b1 = b2 by omega)
           replace hsl1 := hsl1.keepB hw12.step (show ¬ sb1 = b2 by omega)
           replace hV1 := hV1.step hw12.step (fun k hk1 hk2 (hF : k = b2) => by omega)
           replace hleli1 := Nat.le_trans hleli1 (hw12.step).size
           replace hI1 := hI1.keepT ho5 (by decide) (by decide) hw12.step
           have ho14 : Own w25 b2 #[.int .i64 ((muN bs % 8388608 : Nat) : Int), .bool (decide (((muN bs : Nat) : Int) > 8388607)), .int .i64 (bs.getD 5 0), .slice Ai1 li1.length ci1] 24 := Own.cast hw12.own (by kernel_rfl)
           have hzhw12 := hw12.same
           refine VL_end (by kernel_rfl) ?_
           refine VQ_next ?_
           refine VC_seq ?_
           refine VC_region ?_
           refine VL_load (d := 109) (t := 24) (a := ⟨b2, 0, none⟩) (v := .agg #[.int .i64 ((muN bs % 8388608 : Nat) : Int), .bool (decide (((muN bs : Nat) : Int) > 8388607)), .int .i64 (bs.getD 5 0), .slice Ai1 li1.length ci1]) (by kernel_rfl) (by kernel_rfl) (Loads.ownL ho14 (n := 4) (by kernel_rfl) (by kernel_rfl) (by kernel_rfl)) ?_
           refine VL_store (b := b1) (o := 0) (vs := [.int .i64 ((muN bs % 8388608 : Nat) : Int), .bool (decide (((muN bs : Nat) : Int) > 8388607)), .int .i64 (bs.getD 5 0), .slice Ai1 li1.length ci1]) (by kernel_rfl) (by kernel_rfl) ho1 (Nat.le_of_ble_eq_true (by kernel_rfl)) ?_
           intro w26 hw13
           replace hS := Step.transNew hS hw13.step (fun _ _ _ => by omega)
           replace hA := hA.keepB hw13.step (show ¬ sb1 = b1 by omega)
           replace hsl1 := hsl1.keepB hw13.step (show ¬ sb1 = b1 by omega)
           replace hV1 := hV1.step hw13.step (fun k hk1 hk2 (hF : k = b1) => by omega)
           replace hleli1 := Nat.le_trans hleli1 (hw13.step).size
           replace hI1 := hI1.keepT ho1 (by decide) (by decide) hw13.step
           replace ho14 := ho14.step hw13.step (show ¬ b2 = b1 by omega)
           have ho15 : Own w26 b1 #[.int .i64 ((muN bs % 8388608 : Nat) : Int), .bool (decide (((muN bs : Nat) : Int) > 8388607)), .int .i64 (bs.getD 5 0), .slice Ai1 li1.length ci1] 24 := Own.cast hw13.own (by kernel_rfl)
           have hzhw13 := hw13.same
           refine VL_pure 3 [2, 3] [(2, .pointer (some ⟨b1, 0, none⟩)), (3, .int .i64 0)] (by kernel_rfl) rfl ?_
           refine VL_end (by kernel_rfl) ?_
           refine VQ_next ?_
           refine VC_ret ?_
           refine VQ_retC1T1 (T := 24) (.agg #[.int .i64 ((muN bs % 8388608 : Nat) : Int), .bool (decide (((muN bs : Nat) : Int) > 8388607)), .int .i64 (bs.getD 5 0), .slice Ai1 li1.length ci1]) (.int .i64 0) (.inr rfl) rfl rfl rfl (Loads.ownL ho15 (n := 4) (by kernel_rfl) (by kernel_rfl) (by kernel_rfl)) ?_
           exact MuR.yes ((mu_i (by omega) (by omega) ⟨by omega, by omega, by omega, by omega⟩ (by assumption) (by omega)).trans (by first | assumption | exact Classical.not_not.1 (by assumption))) hv1 hI1 (by omega) hS

set_option maxRecDepth 100000 in
set_option maxHeartbeats 4000000 in
theorem same16_any (r : Int) (bk : Bool) (k r' : Int) (bk' : Bool) (k' : Int) (A : Option Addr) (n c lo hi : Nat) (l : List IeV) (w : World) (hn : l.length = n) (hA : Ies w lo hi A l) (A' : Option Addr) (n' c' lo' hi' : Nat) (l' : List IeV) (hn' : l'.length = n') (hA' : Ies w lo' hi' A' l') (hlen : n ≤ 1000000) (hl1 : ∀ x ∈ l, x.n < 1000000) (hl2 : ∀ x ∈ l', x.n < 1000000) (hhi : hi ≤ w.heap.size) (hhi' : hi' ≤ w.heap.size) :
  CV Try.prog 16 #[.agg #[.int .i64 r, .bool bk, .int .i64 k, .slice A n c], .agg #[.int .i64 r', .bool bk', .int .i64 k', .slice A' n' c']] w (fun x w1 => x = .bool (sameM r bk k (vals l) r' bk' k' (vals l')) ∧ Step No w w1) := by
 have hS : Step No w w := Step.refl _ _
 refine CV_enter Try.f16 _ 31 [(0, .agg #[.int .i64 r, .bool bk, .int .i64 k, .slice A n c]), (1, .agg #[.int .i64 r', .bool bk', .int .i64 k', .slice A' n' c'])] Try.func16 rfl rfl (by kernel_rfl) rfl ?_
 refine VC_seq ?_
 refine VC_region ?_
 have hzs1 := hS.size
 refine VL_box (d := 2) (t := 24) (c := #[.int .i64 r, .bool bk, .int .i64 k, .slice A n c]) (by kernel_rfl) (by kernel_rfl) ?_
 intro b1 w1 hn1
 replace hS := Step.trans hS (hn1.step No)
 replace hA := hA.no (hn1.step No)
 replace hA' := hA'.no (hn1.step No)
 have ho1 := hn1.own
 have hzhn1 := hn1.size
 have hqhn1 := hn1.eqb
 have hzs2 := hS.size
 have hzl1 := ho1.lt
 refine VL_box (d := 3) (t := 24) (c := #[.int .i64 r', .bool bk', .int .i64 k', .slice A' n' c']) (by kernel_rfl) (by kernel_rfl) ?_
 intro b2 w2 hn2
 replace hS := Step.trans hS (hn2.step No)
 replace hA := hA.no (hn2.step No)
 replace hA' := hA'.no (hn2.step No)
 replace ho1 := ho1.no (hn2.step No)
 have ho2 := hn2.own
 have hzhn2 := hn2.size
 have hqhn2 := hn2.eqb
 refine VL_pure 3 [2, 3] [(2, .pointer (some ⟨b1, 0, none⟩)), (3, .pointer (some ⟨b2, 0, none⟩))] (by kernel_rfl) rfl ?_
 refine VL_end (by kernel_rfl) ?_
 refine VQ_next ?_
 refine VC_seq ?_
 refine VC_region ?_
 refine VL_pure 1 [2, 3, 5] [(2, .pointer (some ⟨b1, 0, none⟩)), (3, .pointer (some ⟨b2, 0, none⟩)), (5, .pointer (some ⟨b1, 0, none⟩))] (by kernel_rfl) rfl ?_
 refine VL_load (d := 6) (t := 3) (a := ⟨b1, 0, none⟩) (v := .int .i64 r) (by kernel_rfl) (by kernel_rfl) (Loads.own1 ho1 (by kernel_rfl) (by rfl)) ?_
 refine VL_pure 3 [2, 3, 6, 7] [(2, .pointer (some ⟨b1, 0, none⟩)), (3, .pointer (some ⟨b2, 0, none⟩)), (6, .int .i64 r), (7, .pointer (some ⟨b2, 0, none⟩))] (by kernel_rfl) rfl ?_
 refine VL_load (d := 8) (t := 3) (a := ⟨b2, 0, none⟩) (v := .int .i64 r') (by kernel_rfl) (by kernel_rfl) (Loads.own1 ho2 (by kernel_rfl) (by rfl)) ?_
 refine VL_pure 6 [2, 3, 10] [(2, .pointer (some ⟨b1, 0, none⟩)), (3, .pointer (some ⟨b2, 0, none⟩)), (10, .bool (r == r'))] (by kernel_rfl) rfl ?_
 refine VL_beq r r' (fun bV => [(2, .pointer (some ⟨b1, 0, none⟩)), (3, .pointer (some ⟨b2, 0, none⟩)), (10, .bool bV)]) rfl (fun hg1 => ?_) (fun hg1 => ?_)
 ·refine VL_pure 7 [2, 3, 10, 11] [(2, .pointer (some ⟨b1, 0, none⟩)), (3, .pointer (some ⟨b2, 0, none⟩)), (10, .bool true), (11, .pointer (some ⟨b1, 1, none⟩))] (by kernel_rfl) rfl ?_
  refine VL_load (d := 12) (t := 4) (a := ⟨b1, 1, none⟩) (v := .bool bk) (by kernel_rfl) (by kernel_rfl) (Loads.own1 ho1 (by kernel_rfl) (by rfl)) ?_
  refine VL_pure 9 [2, 3, 10, 12, 13] [(2, .pointer (some ⟨b1, 0, none⟩)), (3, .pointer (some ⟨b2, 0, none⟩)), (10, .bool true), (12, .bool bk), (13, .pointer (some ⟨b2, 1, none⟩))] (by kernel_rfl) rfl ?_
  refine VL_load (d := 14) (t := 4) (a := ⟨b2, 1, none⟩) (v := .bool bk') (by kernel_rfl) (by kernel_rfl) (Loads.own1 ho2 (by kernel_rfl) (by rfl)) ?_
  refine VL_pure 13 [2, 3, 17] [(2, .pointer (some ⟨b1, 0, none⟩)), (3, .pointer (some ⟨b2, 0, none⟩)), (17, .bool (bk == bk'))] (by kernel_rfl) rfl ?_
  refine VL_bool (bk == bk') (fun bV => [(2, .pointer (some ⟨b1, 0, none⟩)), (3, .pointer (some ⟨b2, 0, none⟩)), (17, .bool bV)]) rfl (fun hg2 => ?_) (fun hg2 => ?_)
  ·refine VL_pure 14 [2, 3, 17, 18] [(2, .pointer (some ⟨b1, 0, none⟩)), (3, .pointer (some ⟨b2, 0, none⟩)), (17, .bool true), (18, .pointer (some ⟨b1, 2, none⟩))] (by kernel_rfl) rfl ?_
   refine VL_load (d := 19) (t := 3) (a := ⟨b1, 2, none⟩) (v := .int .i64 k) (by kernel_rfl) (by kernel_rfl) (Loads.own1 ho1 (by kernel_rfl) (by rfl)) ?_
   refine VL_pure 16 [2, 3, 17, 19, 20] [(2, .pointer (some ⟨b1, 0, none⟩)), (3, .pointer (some ⟨b2, 0, none⟩)), (17, .bool true), (19, .int .i64 k), (20, .pointer (some ⟨b2, 2, none⟩))] (by kernel_rfl) rfl ?_
   refine VL_load (d := 21) (t := 3) (a := ⟨b2, 2, none⟩) (v := .int .i64 k') (by kernel_rfl) (by kernel_rfl) (Loads.own1 ho2 (by kernel_rfl) (by rfl)) ?_
   refine VL_pure 20 [2, 3, 24] [(2, .pointer (some ⟨b1, 0, none⟩)), (3, .pointer (some ⟨b2, 0, none⟩)), (24, .bool (k == k'))] (by kernel_rfl) rfl ?_
   refine VL_beq k k' (fun bV => [(2, .pointer (some ⟨b1, 0, none⟩)), (3, .pointer (some ⟨b2, 0, none⟩)), (24, .bool bV)]) rfl (fun hg3 => ?_) (fun hg3 => ?_)
   ·refine VL_pure 21 [3, 24, 25] [(3, .pointer (some ⟨b2, 0, none⟩)), (24, .bool true), (25, .pointer (some ⟨b1, 3, none⟩))] (by kernel_rfl) rfl ?_
    refine VL_load (d := 26) (t := 22) (a := ⟨b1, 3, none⟩) (v := .slice A n c) (by kernel_rfl) (by kernel_rfl) (Loads.own1 ho1 (by kernel_rfl) (by rfl)) ?_
    refine VL_pure 23 [24, 26, 27] [(24, .bool true), (26, .slice A n c), (27, .pointer (some ⟨b2, 3, none⟩))] (by kernel_rfl) rfl ?_
    refine VL_load (d := 28) (t := 22) (a := ⟨b2, 3, none⟩) (v := .slice A' n' c') (by kernel_rfl) (by kernel_rfl) (Loads.own1 ho2 (by kernel_rfl) (by rfl)) ?_
    have hzs3 := hS.size
    have hzl2 := ho1.lt
    have hzl3 := ho2.lt
    refine VL_call (d := 29) (f := 34) (args := #[.slice A n c, .slice A' n' c']) (by kernel_rfl) (by kernel_rfl) (by kernel_rfl) Try.call34 (same15_any A n c lo hi l _ hn hA A' n' c' lo' hi' l' hn' hA'   (by omega) hl1 hl2 (by first | exact Nat.le_refl _ | omega) (by first | exact Nat.le_refl _ | omega)) ?_
    rintro _ w3 ⟨rfl, hc1⟩
    replace hS := Step.trans hS hc1
    replace hA := hA.no hc1
    replace hA' := hA'.no hc1
    replace ho1 := ho1.no hc1
    replace ho2 := ho2.no hc1
    refine VL_pure 27 [4] [(4, .bool (vals l == vals l'))] (by kernel_rfl) rfl ?_
    refine VL_end (by kernel_rfl) ?_
    refine VQ_next ?_
    refine VC_ret ?_
    refine VQ_ret1 (.bool (vals l == vals l')) (.inr rfl) rfl rfl ?_
    exact ⟨congrArg Value.bool (by simp [sameM, *]), hS⟩
   ·refine VL_pure 27 [4] [(4, .bool false)] (by kernel_rfl) rfl ?_
    refine VL_end (by kernel_rfl) ?_
    refine VQ_next ?_
    refine VC_ret ?_
    refine VQ_ret1 (.bool false) (.inr rfl) rfl rfl ?_
    exact ⟨congrArg Value.bool (by simp [sameM, *]), hS⟩
  ·refine VL_pure 27 [4] [(4, .bool false)] (by kernel_rfl) rfl ?_
   refine VL_end (by kernel_rfl) ?_
   refine VQ_next ?_
   refine VC_ret ?_
   refine VQ_ret1 (.bool false) (.inr rfl) rfl rfl ?_
   exact ⟨congrArg Value.bool (by simp [sameM, *]), hS⟩
 ·refine VL_pure 27 [4] [(4, .bool false)] (by kernel_rfl) rfl ?_
  refine VL_end (by kernel_rfl) ?_
  refine VQ_next ?_
  refine VC_ret ?_
  refine VQ_ret1 (.bool false) (.inr rfl) rfl rfl ?_
  exact ⟨congrArg Value.bool (by simp [sameM, *]), hS⟩

set_option maxRecDepth 100000 in
set_option maxHeartbeats 4000000 in
theorem few16_any (r : Int) (bk : Bool) (k : Int) (A : Option Addr) (n c lo hi : Nat) (l : List IeV) (w : World) (hn : l.length = n) (hA : Ies w lo hi A l) (hlen : n ≤ 9223372036854775807) :
  CV Try.prog 10 #[.agg #[.int .i64 r, .bool bk, .int .i64 k, .slice A n c]] w (fun x w1 => x = .bool (fewB l) ∧ Step No w w1) := by
 have hS : Step No w w := Step.refl _ _
 refine CV_enter Try.f10 _ 23 [(0, .agg #[.int .i64 r, .bool bk, .int .i64 k, .slice A n c])] Try.func10 rfl rfl (by kernel_rfl) rfl ?_
 refine VC_seq ?_
 refine VC_region ?_
 have hzs1 := hS.size
 refine VL_box (d := 1) (t := 24) (c := #[.int .i64 r, .bool bk, .int .i64 k, .slice A n c]) (by kernel_rfl) (by kernel_rfl) ?_
 intro b1 w1 hn1
 replace hS := Step.trans hS (hn1.step No)
 replace hA := hA.no (hn1.step No)
 have ho1 := hn1.own
 have hzhn1 := hn1.size
 have hqhn1 := hn1.eqb
 refine VL_pure 2 [1] [(1, .pointer (some ⟨b1, 0, none⟩))] (by kernel_rfl) rfl ?_
 refine VL_end (by kernel_rfl) ?_
 refine VQ_next ?_
 refine VC_seq ?_
 refine VC_seq ?_
 refine VC_region ?_
 refine VL_pure 1 [1, 4] [(1, .pointer (some ⟨b1, 0, none⟩)), (4, .pointer (some ⟨b1, 3, none⟩))] (by kernel_rfl) rfl ?_
 refine VL_load (d := 5) (t := 22) (a := ⟨b1, 3, none⟩) (v := .slice A n c) (by kernel_rfl) (by kernel_rfl) (Loads.own1 ho1 (by kernel_rfl) (by rfl)) ?_
 refine VL_pure 4 [1, 6, 7] [(1, .pointer (some ⟨b1, 0, none⟩)), (6, .int .i64 ((n : Nat) : Int)), (7, .int .i64 0)] (by kernel_rfl) rfl ?_
 refine VL_end (by kernel_rfl) ?_
 refine VQ_next ?_
 refine VC_block ?_
 refine VC_loop (σ := Nat) (fun σs => [(1, .pointer (some ⟨b1, 0, none⟩)), (6, .int .i64 ((n : Nat) : Int)), (7, .int .i64 ((σs : Nat) : Int))]) (fun σs w2 => (σs ≤ n) ∧ (∀ i y, i < σs → l[i]? = some y → y.n ≤ 300) ∧ (Step No w w2) ∧ (Ies w2 lo hi A l) ∧ (Own w2 b1 #[.int .i64 r, .bool bk, .int .i64 k, .slice A n c] 24)) (fun σs w2 => n - σs) 0 ⟨rfl, rfl, rfl, trivial⟩ ?_ ?_
 ·exact ⟨Nat.zero_le _, fun i y hi => absurd hi (Nat.not_lt_zero _), hS, hA, ho1⟩
 rintro j w2 ⟨hj, hz, hS, hA, ho1⟩
 try dsimp only at hj hz hS hA ho1 ⊢
 refine VC_seq ?_
 refine VC_region ?_
 refine VL_pure 1 [1, 6, 7, 8] [(1, .pointer (some ⟨b1, 0, none⟩)), (6, .int .i64 ((n : Nat) : Int)), (7, .int .i64 ((j : Nat) : Int)), (8, .bool (decide (((j : Nat) : Int) < ((n : Nat) : Int))))] (by kernel_rfl) rfl ?_
 refine VL_end (by kernel_rfl) ?_
 refine VQ_next ?_
 refine VC_seq ?_
 refine VC_dec (((j : Nat) : Int) < ((n : Nat) : Int)) (by kernel_rfl) (fun h1 => ?_) (fun h1 => ?_)
 ·refine VC_skip ?_
  refine VQ_next ?_
  refine VC_seq ?_
  refine VC_block ?_
  refine VC_seq ?_
  refine VC_region ?_
  refine VL_pure 2 [1, 6, 7, 3] [(1, .pointer (some ⟨b1, 0, none⟩)), (6, .int .i64 ((n : Nat) : Int)), (7, .int .i64 ((j : Nat) : Int)), (3, .int .i64 ((j : Nat) : Int))] (by kernel_rfl) rfl ?_
  refine VL_end (by kernel_rfl) ?_
  refine VQ_next ?_
  refine VC_seq ?_
  refine VC_region ?_
  refine VL_pure 1 [1, 6, 7, 3, 10] [(1, .pointer (some ⟨b1, 0, none⟩)), (6, .int .i64 ((n : Nat) : Int)), (7, .int .i64 ((j : Nat) : Int)), (3, .int .i64 ((j : Nat) : Int)), (10, .pointer (some ⟨b1, 3, none⟩))] (by kernel_rfl) rfl ?_
  refine VL_load (d := 11) (t := 22) (a := ⟨b1, 3, none⟩) (v := .slice A n c) (by kernel_rfl) (by kernel_rfl) (Loads.own1 ho1 (by kernel_rfl) (by rfl)) ?_
  refine VL_pure 3 [1, 6, 7, 11, 12] [(1, .pointer (some ⟨b1, 0, none⟩)), (6, .int .i64 ((n : Nat) : Int)), (7, .int .i64 ((j : Nat) : Int)), (11, .slice A n c), (12, .int .i64 ((j : Nat) : Int))] (by kernel_rfl) rfl ?_
  obtain ⟨sb1, so1, rfl, hlbsb1⟩ := hA.open (by omega)
  refine VL_index (d := 13) (b := sb1) (o := so1) (len := n) (sz := 2) (m := ((j : Nat) : Int)) (by kernel_rfl) (by kernel_rfl) j (by rfl) (by omega) (so1 + j * 2) (by omega) ?_
  refine VL_pure 5 [1, 6, 7, 14] [(1, .pointer (some ⟨b1, 0, none⟩)), (6, .int .i64 ((n : Nat) : Int)), (7, .int .i64 ((j : Nat) : Int)), (14, .pointer (some ⟨sb1, so1 + j * 2 + 1, none⟩))] (by kernel_rfl) rfl ?_
  obtain ⟨⟨x1i, x1A, x1n, x1c, x1b⟩, hx1⟩ : ∃ x, l[j]? = some x := ⟨_, List.getElem?_eq_getElem (by omega)⟩
  obtain ⟨hnx1, hcx1, hbx1⟩ := Ies.body hA hx1
  dsimp only at hnx1 hcx1 hbx1
  refine VL_load (d := 15) (t := 25) (a := ⟨sb1, so1 + j * 2 + 1, none⟩) (v := .slice x1A x1n x1c) (by kernel_rfl) (by kernel_rfl) (Ies.ld1 hA (by kernel_rfl) hx1) ?_
  refine VL_pure 8 [1, 6, 7, 17] [(1, .pointer (some ⟨b1, 0, none⟩)), (6, .int .i64 ((n : Nat) : Int)), (7, .int .i64 ((j : Nat) : Int)), (17, .bool (decide (((x1n : Nat) : Int) > 300)))] (by kernel_rfl) rfl ?_
  refine VL_end (by kernel_rfl) ?_
  refine VQ_next ?_
  refine VC_dec (((x1n : Nat) : Int) > 300) (by kernel_rfl) (fun h2 => ?_) (fun h2 => ?_)
  ·refine VC_seq ?_
   refine VC_region ?_
   refine VL_pure 1 [2] [(2, .bool false)] (by kernel_rfl) rfl ?_
   refine VL_end (by kernel_rfl) ?_
   refine VQ_next ?_
   refine VC_ret ?_
   refine VQ_block_ret ?_
   refine VQ_then_ret ?_
   refine VQ_then_ret ?_
   refine VQ_block_ret ?_
   refine VQ_then_ret ?_
   refine VQ_ret1 (.bool false) (.inr rfl) rfl rfl ?_
   exact ⟨congrArg Value.bool (Eq.symm (fewB_no hx1 (by dsimp only; omega))), hS⟩
  ·refine VC_skip ?_
   refine VQ_block_normal ?_
   refine VQ_next ?_
   refine VC_region ?_
   refine VL_pure 1 [1, 6, 18] [(1, .pointer (some ⟨b1, 0, none⟩)), (6, .int .i64 ((n : Nat) : Int)), (18, .int .i64 (IntKind.wrap .i64 (((j : Nat) : Int) + 1)))] (by kernel_rfl) rfl ?_
   have he1 : IntKind.wrap .i64 (((j : Nat) : Int) + 1) = ((j + 1 : Nat) : Int) := (by rw [wrap_i64 _ (by omega) (by omega)]; omega)
   refine VL_eq [(1, .pointer (some ⟨b1, 0, none⟩)), (6, .int .i64 ((n : Nat) : Int)), (18, .int .i64 ((j + 1 : Nat) : Int))] (by rw [he1]) ?_
   refine VL_pure 2 [1, 6, 7] [(1, .pointer (some ⟨b1, 0, none⟩)), (6, .int .i64 ((n : Nat) : Int)), (7, .int .i64 ((j + 1 : Nat) : Int))] (by kernel_rfl) rfl ?_
   refine VL_end (by kernel_rfl) ?_
   refine VQ_again (j + 1) ⟨rfl, rfl, rfl, trivial⟩ ?_ ?_
   ·exact ⟨(by omega), fun i y hi hy => by rcases Nat.lt_succ_iff_lt_or_eq.1 hi with h9 | rfl; exact hz i y h9 hy; rw [hx1] at hy; cases hy; dsimp only; omega, hS, hA, ho1⟩
   ·(try dsimp only); omega
 ·refine VC_exit ?_
  refine VQ_then_exit ?_
  refine VQ_then_exit ?_
  refine VQ_block_hit ?_
  refine VQ_next ?_
  refine VC_seq ?_
  refine VC_region ?_
  refine VL_pure 1 [19] [(19, .pointer (some ⟨b1, 3, none⟩))] (by kernel_rfl) rfl ?_
  refine VL_load (d := 20) (t := 22) (a := ⟨b1, 3, none⟩) (v := .slice A n c) (by kernel_rfl) (by kernel_rfl) (Loads.own1 ho1 (by kernel_rfl) (by rfl)) ?_
  refine VL_pure 5 [2] [(2, .bool (decide (((n : Nat) : Int) ≤ 20)))] (by kernel_rfl) rfl ?_
  refine VL_end (by kernel_rfl) ?_
  refine VQ_next ?_
  refine VC_ret ?_
  refine VQ_ret1 (.bool (decide (((n : Nat) : Int) ≤ 20))) (.inr rfl) rfl rfl ?_
  exact ⟨congrArg Value.bool (Eq.symm (fewB_is hn (fun i y hi hy => hz i y (by omega) hy))), hS⟩

end Go.Proofs.Ytejpcmjokamdcaa
