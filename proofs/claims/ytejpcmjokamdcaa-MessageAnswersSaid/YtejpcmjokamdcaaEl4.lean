/- Layer 15: Find, few, Cause, awake. -/
import Derived.Test.YtejpcmjokamdcaaProg
import Derived.Test.YtejpcmjokamdcaaEl3
import Derived.Test.YtejpcmjokamdcaaIe3
set_option linter.unusedVariables false
set_option linter.unusedSimpArgs false
namespace Go.Proofs.Ytejpcmjokamdcaa
open Go.Vc Go.RowKit

theorem awk_pack : packT [(8, [0, 35])] = [8, 128, 0, 2, 0, 35] := by decide +kernel
theorem awk_packE : packE [(8, [0, 35])] = 0 := by decide +kernel
theorem bytes_c : Bytes [8, 128, 0, 2, 0, 35] := by intro x hx; simp only [List.mem_cons, List.mem_nil_iff, or_false] at hx; omega
theorem awk_un : ieU [] (packT [(8, [0, 35])]) = ([(8, [0, 35])], 0) := by
  rw [show packT [(8, [0, 35])] = packL [(8, [0, 35])] from (packT_yes (by decide +kernel)).1]
  exact (ieU_pack [(8, [0, 35])] [] (by simp) (by intro x hx; simp only [List.mem_cons, List.mem_nil_iff, or_false] at hx; subst hx; simp)).trans (by simp)
theorem awkP {A : Option Addr} : packT (vals [⟨8, A, 2, 2, [0, ((35 : Nat) : Int)]⟩]) = [8, 128, 0, 2, 0, 35] := awk_pack
theorem awkE {A : Option Addr} : packE (vals [⟨8, A, 2, 2, [0, ((35 : Nat) : Int)]⟩]) = 0 := awk_packE
theorem awkUE {A : Option Addr} : ieUE (packT (vals [⟨8, A, 2, 2, [0, ((35 : Nat) : Int)]⟩])) = 0 := congrArg Prod.snd awk_un
theorem awkUL {A : Option Addr} {l : List IeV} (h : vals l = ieUL (packT (vals [⟨8, A, 2, 2, [0, ((35 : Nat) : Int)]⟩]))) : l.length = 1 := by
  rw [← vals_len, h, show ieUL (packT (vals [⟨8, A, 2, 2, [0, ((35 : Nat) : Int)]⟩])) = [(8, [0, 35])] from congrArg Prod.fst awk_un]; rfl
theorem fd1_any (xi : Int) (A : Option Addr) (n c : Nat) (w : World) (b : Nat) (id : Int) (hB : Own w b #[.int .u8 id] 5) :
  CV Try.prog 55 #[.agg #[.int .u8 xi, .slice A n c], .pointer (some ⟨b, 0, none⟩)] w (fun x w1 => x = .bool (xi == id) ∧ Step No w w1) := by
 have hS : Step No w w := Step.refl _ _
 refine CV_enter Try.f55 _ 8 [(0, .agg #[.int .u8 xi, .slice A n c]), (1, .pointer (some ⟨b, 0, none⟩))] Try.func55 rfl rfl (by kernel_rfl) rfl ?_
 refine VC_seq ?_
 refine VC_region ?_
 have hzs1 := hS.size
 have hzl1 := hB.lt
 refine VL_box (d := 2) (t := 60) (c := #[.int .u8 xi, .slice A n c]) (by kernel_rfl) (by kernel_rfl) ?_
 intro b1 w1 hn1
 replace hS := Step.trans hS (hn1.step No)
 replace hB := hB.no (hn1.step No)
 have ho1 := hn1.own
 have hzhn1 := hn1.size
 have hqhn1 := hn1.eqb
 refine VL_pure 2 [1, 2] [(1, .pointer (some ⟨b, 0, none⟩)), (2, .pointer (some ⟨b1, 0, none⟩))] (by kernel_rfl) rfl ?_
 refine VL_end (by kernel_rfl) ?_
 refine VQ_next ?_
 refine VC_seq ?_
 refine VC_region ?_
 refine VL_pure 1 [1, 4] [(1, .pointer (some ⟨b, 0, none⟩)), (4, .pointer (some ⟨b1, 0, none⟩))] (by kernel_rfl) rfl ?_
 refine VL_load (d := 5) (t := 5) (a := ⟨b1, 0, none⟩) (v := .int .u8 xi) (by kernel_rfl) (by kernel_rfl) (Loads.own1 ho1 (by kernel_rfl) (by rfl)) ?_
 refine VL_load (d := 6) (t := 5) (a := ⟨b, 0, none⟩) (v := .int .u8 id) (by kernel_rfl) (by kernel_rfl) (Loads.own1 hB (by kernel_rfl) (by rfl)) ?_
 refine VL_pure 5 [3] [(3, .bool (xi == id))] (by kernel_rfl) rfl ?_
 refine VL_end (by kernel_rfl) ?_
 refine VQ_next ?_
 refine VC_ret ?_
 refine VQ_ret1 (.bool (xi == id)) (.inr rfl) rfl rfl ?_
 exact ⟨rfl, hS⟩

set_option maxRecDepth 100000 in
set_option maxHeartbeats 4000000 in
theorem ixf_any (A : Option Addr) (n c lo hi : Nat) (l : List IeV) (w : World) (hn : l.length = n) (hA : Ies w lo hi A l) (b : Nat) (id : Int) (hB : Own w b #[.int .u8 id] 5) (hlen : n ≤ 1000000) :
  CV Try.prog 54 #[.slice A n c, .func (.func 55) #[] #[.pointer (some ⟨b, 0, none⟩)]] w (fun v w1 => ((v = .int .i64 (-1) ∧ l.find? (isId id) = none) ∨ ∃ k y, k < n ∧ l[k]? = some y ∧ l.find? (isId id) = some y ∧ v = .int .i64 ((k : Nat) : Int)) ∧ Step No w w1) := by
 have hS : Step No w w := Step.refl _ _
 refine CV_enter Try.f54 _ 19 [(0, .slice A n c), (1, .func (.func 55) #[] #[.pointer (some ⟨b, 0, none⟩)])] Try.func54 rfl rfl (by kernel_rfl) rfl ?_
 refine VC_seq ?_
 refine VC_region ?_
 refine VL_pure 1 [0, 1] [(0, .slice A n c), (1, .func (.func 55) #[] #[.pointer (some ⟨b, 0, none⟩)])] (by kernel_rfl) rfl ?_
 refine VL_end (by kernel_rfl) ?_
 refine VQ_next ?_
 refine VC_seq ?_
 refine VC_seq ?_
 refine VC_region ?_
 refine VL_pure 3 [0, 1, 7, 8] [(0, .slice A n c), (1, .func (.func 55) #[] #[.pointer (some ⟨b, 0, none⟩)]), (7, .int .i64 ((n : Nat) : Int)), (8, .int .i64 0)] (by kernel_rfl) rfl ?_
 refine VL_end (by kernel_rfl) ?_
 refine VQ_next ?_
 refine VC_block ?_
 refine VC_loop (σ := Nat) (fun σs => [(0, .slice A n c), (1, .func (.func 55) #[] #[.pointer (some ⟨b, 0, none⟩)]), (7, .int .i64 ((n : Nat) : Int)), (8, .int .i64 ((σs : Nat) : Int))]) (fun σs w1 => (σs ≤ n) ∧ (∀ i y, i < σs → l[i]? = some y → y.id ≠ id) ∧ (Step No w w1) ∧ (Ies w1 lo hi A l) ∧ (Own w1 b #[.int .u8 id] 5)) (fun σs w1 => n - σs) 0 ⟨rfl, rfl, rfl, rfl, trivial⟩ ?_ ?_
 ·exact ⟨Nat.zero_le _, fun i y hi => absurd hi (Nat.not_lt_zero _), hS, hA, hB⟩
 rintro k w1 ⟨hk, hz, hS, hA, hB⟩
 try dsimp only at hk hz hS hA hB ⊢
 refine VC_seq ?_
 refine VC_region ?_
 refine VL_pure 1 [0, 1, 7, 8, 9] [(0, .slice A n c), (1, .func (.func 55) #[] #[.pointer (some ⟨b, 0, none⟩)]), (7, .int .i64 ((n : Nat) : Int)), (8, .int .i64 ((k : Nat) : Int)), (9, .bool (decide (((k : Nat) : Int) < ((n : Nat) : Int))))] (by kernel_rfl) rfl ?_
 refine VL_end (by kernel_rfl) ?_
 refine VQ_next ?_
 refine VC_seq ?_
 refine VC_dec (((k : Nat) : Int) < ((n : Nat) : Int)) (by kernel_rfl) (fun h1 => ?_) (fun h1 => ?_)
 ·refine VC_skip ?_
  refine VQ_next ?_
  refine VC_seq ?_
  refine VC_block ?_
  refine VC_seq ?_
  refine VC_region ?_
  refine VL_pure 2 [0, 1, 7, 8, 5] [(0, .slice A n c), (1, .func (.func 55) #[] #[.pointer (some ⟨b, 0, none⟩)]), (7, .int .i64 ((n : Nat) : Int)), (8, .int .i64 ((k : Nat) : Int)), (5, .int .i64 ((k : Nat) : Int))] (by kernel_rfl) rfl ?_
  refine VL_end (by kernel_rfl) ?_
  refine VQ_next ?_
  refine VC_seq ?_
  refine VC_region ?_
  refine VL_pure 3 [0, 1, 7, 8, 5, 11, 12, 13] [(0, .slice A n c), (1, .func (.func 55) #[] #[.pointer (some ⟨b, 0, none⟩)]), (7, .int .i64 ((n : Nat) : Int)), (8, .int .i64 ((k : Nat) : Int)), (5, .int .i64 ((k : Nat) : Int)), (11, .func (.func 55) #[] #[.pointer (some ⟨b, 0, none⟩)]), (12, .slice A n c), (13, .int .i64 ((k : Nat) : Int))] (by kernel_rfl) rfl ?_
  obtain ⟨sb1, so1, rfl, hlbsb1⟩ := hA.open (by omega)
  refine VL_index (d := 14) (b := sb1) (o := so1) (len := n) (sz := 2) (m := ((k : Nat) : Int)) (by kernel_rfl) (by kernel_rfl) k (by rfl) (by omega) (so1 + k * 2) (by omega) ?_
  obtain ⟨⟨x1i, x1A, x1n, x1c, x1b⟩, hx1⟩ : ∃ x, l[k]? = some x := ⟨_, List.getElem?_eq_getElem (by omega)⟩
  obtain ⟨hnx1, hcx1, hbx1⟩ := Ies.body hA hx1
  dsimp only at hnx1 hcx1 hbx1
  refine VL_load (d := 15) (t := 60) (a := ⟨sb1, so1 + k * 2, none⟩) (v := .agg #[.int .u8 x1i, .slice x1A x1n x1c]) (by kernel_rfl) (by kernel_rfl) (Ies.ld hA (by kernel_rfl) hx1) ?_
  have hzs1 := hS.size
  have hzl1 := hB.lt
  refine VL_call (d := 16) (f := 55) (args := #[.agg #[.int .u8 x1i, .slice x1A x1n x1c], .pointer (some ⟨b, 0, none⟩)]) (by kernel_rfl) (by kernel_rfl) (by kernel_rfl) Try.call55 (fd1_any x1i x1A x1n x1c _ b id hB) ?_
  rintro _ w2 ⟨rfl, hc1⟩
  replace hS := Step.trans hS hc1
  replace hA := hA.no hc1
  replace hB := hB.no hc1
  replace hbx1 := hbx1.no hc1
  refine VL_end (by kernel_rfl) ?_
  refine VQ_next ?_
  refine VC_eq x1i id (by kernel_rfl) (fun h2 => ?_) (fun h2 => ?_)
  ·refine VC_seq ?_
   refine VC_region ?_
   refine VL_pure 2 [4] [(4, .int .i64 ((k : Nat) : Int))] (by kernel_rfl) rfl ?_
   refine VL_end (by kernel_rfl) ?_
   refine VQ_next ?_
   refine VC_ret ?_
   refine VQ_block_ret ?_
   refine VQ_then_ret ?_
   refine VQ_then_ret ?_
   refine VQ_block_ret ?_
   refine VQ_then_ret ?_
   refine VQ_ret1 (.int .i64 ((k : Nat) : Int)) (.inr rfl) rfl rfl ?_
   exact ⟨.inr ⟨k, _, by omega, hx1, find_yes (by dsimp only; assumption) hx1 hz, rfl⟩, hS⟩
  ·refine VC_skip ?_
   refine VQ_block_normal ?_
   refine VQ_next ?_
   refine VC_region ?_
   refine VL_pure 1 [0, 1, 7, 18] [(0, .slice (some ⟨sb1, so1, none⟩) n c), (1, .func (.func 55) #[] #[.pointer (some ⟨b, 0, none⟩)]), (7, .int .i64 ((n : Nat) : Int)), (18, .int .i64 (IntKind.wrap .i64 (((k : Nat) : Int) + 1)))] (by kernel_rfl) rfl ?_
   have he1 : IntKind.wrap .i64 (((k : Nat) : Int) + 1) = ((k + 1 : Nat) : Int) := (by rw [wrap_i64 _ (by omega) (by omega)]; omega)
   refine VL_eq [(0, .slice (some ⟨sb1, so1, none⟩) n c), (1, .func (.func 55) #[] #[.pointer (some ⟨b, 0, none⟩)]), (7, .int .i64 ((n : Nat) : Int)), (18, .int .i64 ((k + 1 : Nat) : Int))] (by rw [he1]) ?_
   refine VL_pure 2 [0, 1, 7, 8] [(0, .slice (some ⟨sb1, so1, none⟩) n c), (1, .func (.func 55) #[] #[.pointer (some ⟨b, 0, none⟩)]), (7, .int .i64 ((n : Nat) : Int)), (8, .int .i64 ((k + 1 : Nat) : Int))] (by kernel_rfl) rfl ?_
   refine VL_end (by kernel_rfl) ?_
   refine VQ_again (k + 1) ⟨rfl, rfl, rfl, rfl, trivial⟩ ?_ ?_
   ·exact ⟨(by omega), fun i y hi hy => by rcases Nat.lt_succ_iff_lt_or_eq.1 hi with h9 | rfl; exact hz i y h9 hy; rw [hx1] at hy; cases hy; dsimp only; assumption, hS, hA, hB⟩
   ·(try dsimp only); omega
 ·refine VC_exit ?_
  refine VQ_then_exit ?_
  refine VQ_then_exit ?_
  refine VQ_block_hit ?_
  refine VQ_next ?_
  refine VC_seq ?_
  refine VC_region ?_
  refine VL_pure 1 [4] [(4, .int .i64 (-1))] (by kernel_rfl) rfl ?_
  refine VL_end (by kernel_rfl) ?_
  refine VQ_next ?_
  refine VC_ret ?_
  refine VQ_ret1 (.int .i64 (-1)) (.inr rfl) rfl rfl ?_
  exact ⟨.inl ⟨rfl, find_no hn (fun i y hi hy => hz i y (by omega) hy)⟩, hS⟩

set_option maxRecDepth 100000 in
set_option maxHeartbeats 4000000 in
theorem find_any (A : Option Addr) (n c lo hi : Nat) (l : List IeV) (w : World) (hn : l.length = n) (hA : Ies w lo hi A l) (id : Int) (hlen : n ≤ 1000000) (hhi : hi ≤ w.heap.size) :
  CV Try.prog 36 #[.slice A n c, .int .u8 id] w (fun x w1 => FindR w w1 x l id) := by
 have hS : Step No w w := Step.refl _ _
 refine CV_enter Try.f36 _ 17 [(0, .slice A n c), (1, .int .u8 id)] Try.func36 rfl rfl (by kernel_rfl) rfl ?_
 refine VC_seq ?_
 refine VC_region ?_
 have hzs1 := hS.size
 refine VL_box (d := 3) (t := 5) (c := #[.int .u8 id]) (by kernel_rfl) (by kernel_rfl) ?_
 intro b1 w1 hn1
 replace hS := Step.trans hS (hn1.step No)
 replace hA := hA.no (hn1.step No)
 have ho1 := hn1.own
 have hzhn1 := hn1.size
 have hqhn1 := hn1.eqb
 have hzs2 := hS.size
 have hzl1 := ho1.lt
 refine VL_box (d := 4) (t := 60) (c := #[.int .u8 0, .slice none 0 0]) (by kernel_rfl) (by kernel_rfl) ?_
 intro b2 w2 hn2
 replace hS := Step.trans hS (hn2.step No)
 replace hA := hA.no (hn2.step No)
 replace ho1 := ho1.no (hn2.step No)
 have ho2 := hn2.own
 have hzhn2 := hn2.size
 have hqhn2 := hn2.eqb
 refine VL_pure 3 [0, 3, 4] [(0, .slice A n c), (3, .pointer (some ⟨b1, 0, none⟩)), (4, .pointer (some ⟨b2, 0, none⟩))] (by kernel_rfl) rfl ?_
 refine VL_end (by kernel_rfl) ?_
 refine VQ_next ?_
 refine VC_seq ?_
 refine VC_region ?_
 refine VL_pure 2 [0, 4, 7, 8] [(0, .slice A n c), (4, .pointer (some ⟨b2, 0, none⟩)), (7, .slice A n c), (8, .func (.func 55) #[] #[.pointer (some ⟨b1, 0, none⟩)])] (by kernel_rfl) rfl ?_
 have hzs3 := hS.size
 have hzl2 := ho1.lt
 have hzl3 := ho2.lt
 refine VL_call (d := 9) (f := 54) (args := #[.slice A n c, .func (.func 55) #[] #[.pointer (some ⟨b1, 0, none⟩)]]) (by kernel_rfl) (by kernel_rfl) (by kernel_rfl) Try.call54 (ixf_any A n c lo hi l _ hn hA b1 id ho1 (by omega)) ?_
 rintro _ w3 ⟨(⟨rfl, hz⟩ | ⟨k, y, hk1, hk2, hk3, rfl⟩), hc1⟩
 ·replace hS := Step.trans hS hc1
  replace hA := hA.no hc1
  replace ho1 := ho1.no hc1
  replace ho2 := ho2.no hc1
  refine VL_pure 4 [0, 4, 6] [(0, .slice A n c), (4, .pointer (some ⟨b2, 0, none⟩)), (6, .int .i64 (-1))] (by kernel_rfl) rfl ?_
  refine VL_end (by kernel_rfl) ?_
  refine VQ_next ?_
  refine VC_seq ?_
  refine VC_seq ?_
  refine VC_region ?_
  refine VL_pure 2 [0, 4, 6, 11] [(0, .slice A n c), (4, .pointer (some ⟨b2, 0, none⟩)), (6, .int .i64 (-1)), (11, .bool true)] (by kernel_rfl) rfl ?_
  refine VL_end (by kernel_rfl) ?_
  refine VQ_next ?_
  refine VC_true (by kernel_rfl) ?_
  refine VC_seq ?_
  refine VC_region ?_
  refine VL_pure 1 [4, 12] [(4, .pointer (some ⟨b2, 0, none⟩)), (12, .agg #[.int .u8 0, .slice none 0 0])] (by kernel_rfl) rfl ?_
  refine VL_store (b := b2) (o := 0) (vs := [.int .u8 0, .slice none 0 0]) (by kernel_rfl) (by kernel_rfl) ho2 (Nat.le_of_ble_eq_true (by kernel_rfl)) ?_
  intro w4 hw1
  replace hS := Step.transNew hS hw1.step (fun _ _ _ => by omega)
  replace hA := hA.step hw1.step (fun k hk1 hk2 (hF : k = b2) => by omega)
  replace ho1 := ho1.step hw1.step (show ¬ b1 = b2 by omega)
  have ho3 : Own w4 b2 #[.int .u8 0, .slice none 0 0] 60 := Own.cast hw1.own (by kernel_rfl)
  have hzhw1 := hw1.same
  refine VL_pure 3 [4, 5] [(4, .pointer (some ⟨b2, 0, none⟩)), (5, .bool false)] (by kernel_rfl) rfl ?_
  refine VL_end (by kernel_rfl) ?_
  refine VQ_next ?_
  refine VC_ret ?_
  refine VQ_then_ret ?_
  refine VQ_retC1T1 (T := 60) (.agg #[.int .u8 0, .slice none 0 0]) (.bool false) (.inr rfl) rfl rfl rfl (Loads.ownL ho3 (n := 2) (by kernel_rfl) (by kernel_rfl) (by kernel_rfl)) ?_
  first | exact ⟨.inl ⟨by assumption, rfl⟩, hS⟩ | (exfalso; omega)
 ·replace hS := Step.trans hS hc1
  replace hA := hA.no hc1
  replace ho1 := ho1.no hc1
  replace ho2 := ho2.no hc1
  refine VL_pure 4 [0, 4, 6] [(0, .slice A n c), (4, .pointer (some ⟨b2, 0, none⟩)), (6, .int .i64 ((k : Nat) : Int))] (by kernel_rfl) rfl ?_
  refine VL_end (by kernel_rfl) ?_
  refine VQ_next ?_
  refine VC_seq ?_
  refine VC_seq ?_
  refine VC_region ?_
  refine VL_pure 2 [0, 4, 6, 11] [(0, .slice A n c), (4, .pointer (some ⟨b2, 0, none⟩)), (6, .int .i64 ((k : Nat) : Int)), (11, .bool (decide (((k : Nat) : Int) < 0)))] (by kernel_rfl) rfl ?_
  refine VL_end (by kernel_rfl) ?_
  refine VQ_next ?_
  refine VC_dec (((k : Nat) : Int) < 0) (by kernel_rfl) (fun h1 => ?_) (fun h1 => ?_)
  ·refine VC_seq ?_
   refine VC_region ?_
   refine VL_pure 1 [4, 12] [(4, .pointer (some ⟨b2, 0, none⟩)), (12, .agg #[.int .u8 0, .slice none 0 0])] (by kernel_rfl) rfl ?_
   refine VL_store (b := b2) (o := 0) (vs := [.int .u8 0, .slice none 0 0]) (by kernel_rfl) (by kernel_rfl) ho2 (Nat.le_of_ble_eq_true (by kernel_rfl)) ?_
   intro w5 hw2
   replace hS := Step.transNew hS hw2.step (fun _ _ _ => by omega)
   replace hA := hA.step hw2.step (fun k hk1 hk2 (hF : k = b2) => by omega)
   replace ho1 := ho1.step hw2.step (show ¬ b1 = b2 by omega)
   have ho4 : Own w5 b2 #[.int .u8 0, .slice none 0 0] 60 := Own.cast hw2.own (by kernel_rfl)
   have hzhw2 := hw2.same
   refine VL_pure 3 [4, 5] [(4, .pointer (some ⟨b2, 0, none⟩)), (5, .bool false)] (by kernel_rfl) rfl ?_
   refine VL_end (by kernel_rfl) ?_
   refine VQ_next ?_
   refine VC_ret ?_
   refine VQ_then_ret ?_
   refine VQ_retC1T1 (T := 60) (.agg #[.int .u8 0, .slice none 0 0]) (.bool false) (.inr rfl) rfl rfl rfl (Loads.ownL ho4 (n := 2) (by kernel_rfl) (by kernel_rfl) (by kernel_rfl)) ?_
   first | exact ⟨.inl ⟨by assumption, rfl⟩, hS⟩ | (exfalso; omega)
  ·refine VC_skip ?_
   refine VQ_next ?_
   refine VC_seq ?_
   refine VC_region ?_
   refine VL_pure 2 [4, 13, 14] [(4, .pointer (some ⟨b2, 0, none⟩)), (13, .slice A n c), (14, .int .i64 ((k : Nat) : Int))] (by kernel_rfl) rfl ?_
   obtain ⟨sb1, so1, rfl, hlbsb1⟩ := hA.open (by omega)
   refine VL_index (d := 15) (b := sb1) (o := so1) (len := n) (sz := 2) (m := ((k : Nat) : Int)) (by kernel_rfl) (by kernel_rfl) k (by rfl) (by omega) (so1 + k * 2) (by omega) ?_
   obtain ⟨⟨x1i, x1A, x1n, x1c, x1b⟩, hx1⟩ : ∃ x, l[k]? = some x := ⟨_, List.getElem?_eq_getElem (by omega)⟩
   obtain ⟨hnx1, hcx1, hbx1⟩ := Ies.body hA hx1
   dsimp only at hnx1 hcx1 hbx1
   refine VL_load (d := 16) (t := 60) (a := ⟨sb1, so1 + k * 2, none⟩) (v := .agg #[.int .u8 x1i, .slice x1A x1n x1c]) (by kernel_rfl) (by kernel_rfl) (Ies.ld hA (by kernel_rfl) hx1) ?_
   refine VL_store (b := b2) (o := 0) (vs := [.int .u8 x1i, .slice x1A x1n x1c]) (by kernel_rfl) (by kernel_rfl) ho2 (Nat.le_of_ble_eq_true (by kernel_rfl)) ?_
   intro w6 hw3
   replace hS := Step.transNew hS hw3.step (fun _ _ _ => by omega)
   replace hA := hA.step hw3.step (fun k hk1 hk2 (hF : k = b2) => by omega)
   replace ho1 := ho1.step hw3.step (show ¬ b1 = b2 by omega)
   replace hbx1 := hbx1.step hw3.step (fun k hk (hF : k = b2) => by omega)
   have ho5 : Own w6 b2 #[.int .u8 x1i, .slice x1A x1n x1c] 60 := Own.cast hw3.own (by kernel_rfl)
   have hzhw3 := hw3.same
   refine VL_pure 6 [4, 5] [(4, .pointer (some ⟨b2, 0, none⟩)), (5, .bool true)] (by kernel_rfl) rfl ?_
   refine VL_end (by kernel_rfl) ?_
   refine VQ_next ?_
   refine VC_ret ?_
   refine VQ_retC1T1 (T := 60) (.agg #[.int .u8 x1i, .slice x1A x1n x1c]) (.bool true) (.inr rfl) rfl rfl rfl (Loads.ownL ho5 (n := 2) (by kernel_rfl) (by kernel_rfl) (by kernel_rfl)) ?_
   rw [hk2] at hx1
   cases hx1
   exact ⟨.inr ⟨_, hk3, rfl⟩, hS⟩

set_option maxRecDepth 100000 in
set_option maxHeartbeats 4000000 in
theorem cause_yes (m : Nat) (w : World) (hm : m ≤ 127) :
  CV Try.prog 35 #[.int .i64 ((m : Nat) : Int)] w (fun x w1 => ∃ A, x = .tuple #[.agg #[.int .u8 8, .slice A 2 2], .int .i64 0] ∧ Rw w1 w.heap.size 5 A 2 2 (iL .u8 [0, ((m : Nat) : Int)]) ∧ Step No w w1) := by
 have hS : Step No w w := Step.refl _ _
 refine CV_enter Try.f35 _ 15 [(0, .int .i64 ((m : Nat) : Int))] Try.func35 rfl rfl (by kernel_rfl) rfl ?_
 refine VC_seq ?_
 refine VC_region ?_
 have hzs1 := hS.size
 refine VL_box (d := 2) (t := 60) (c := #[.int .u8 0, .slice none 0 0]) (by kernel_rfl) (by kernel_rfl) ?_
 intro b1 w1 hn1
 replace hS := Step.trans hS (hn1.step No)
 have ho1 := hn1.own
 have hzhn1 := hn1.size
 have hqhn1 := hn1.eqb
 refine VL_pure 2 [0, 2] [(0, .int .i64 ((m : Nat) : Int)), (2, .pointer (some ⟨b1, 0, none⟩))] (by kernel_rfl) rfl ?_
 refine VL_end (by kernel_rfl) ?_
 refine VQ_next ?_
 refine VC_seq ?_
 refine VC_seq ?_
 refine VC_region ?_
 refine VL_pure 3 [0, 2, 6] [(0, .int .i64 ((m : Nat) : Int)), (2, .pointer (some ⟨b1, 0, none⟩)), (6, .bool (decide (((m : Nat) : Int) < 0)))] (by kernel_rfl) rfl ?_
 refine VL_known (decide (((m : Nat) : Int) < 0)) (fun bV => [(0, .int .i64 ((m : Nat) : Int)), (2, .pointer (some ⟨b1, 0, none⟩)), (6, .bool bV)]) false rfl (by simp only [decide_eq_false_iff_not]; omega) ?_
 refine VL_pure 6 [0, 2, 9] [(0, .int .i64 ((m : Nat) : Int)), (2, .pointer (some ⟨b1, 0, none⟩)), (9, .bool (decide (((m : Nat) : Int) > 127)))] (by kernel_rfl) rfl ?_
 refine VL_end (by kernel_rfl) ?_
 refine VQ_next ?_
 refine VC_is (b := decide (((m : Nat) : Int) > 127)) false (by kernel_rfl) (by simp only [decide_eq_false_iff_not]; omega) ?_
 refine VC_ite_false ?_
 refine VC_skip ?_
 refine VQ_next ?_
 refine VC_seq ?_
 refine VC_region ?_
 refine VL_pure 2 [2, 12] [(2, .pointer (some ⟨b1, 0, none⟩)), (12, .int .u8 (IntKind.wrap .u8 ((m : Nat) : Int)))] (by kernel_rfl) rfl ?_
 have hzs2 := hS.size
 have hzl1 := ho1.lt
 refine VL_bs (d := 13) (e := 5) (c := #[.int .u8 0, .int .u8 (IntKind.wrap .u8 ((m : Nat) : Int))]) (len := 2) (by kernel_rfl) (by kernel_rfl) ?_
 intro b2 w2 hn2
 replace hS := Step.trans hS (hn2.step No)
 replace ho1 := ho1.no (hn2.step No)
 have ho2 := hn2.own
 have hzhn2 := hn2.size
 have hqhn2 := hn2.eqb
 refine VL_pure 4 [2, 14] [(2, .pointer (some ⟨b1, 0, none⟩)), (14, .agg #[.int .u8 8, .slice (some ⟨b2, 0, none⟩) 2 2])] (by kernel_rfl) rfl ?_
 refine VL_store (b := b1) (o := 0) (vs := [.int .u8 8, .slice (some ⟨b2, 0, none⟩) 2 2]) (by kernel_rfl) (by kernel_rfl) ho1 (Nat.le_of_ble_eq_true (by kernel_rfl)) ?_
 intro w3 hw1
 replace hS := Step.transNew hS hw1.step (fun _ _ _ => by omega)
 replace ho2 := ho2.step hw1.step (show ¬ b2 = b1 by omega)
 have ho3 : Own w3 b1 #[.int .u8 8, .slice (some ⟨b2, 0, none⟩) 2 2] 60 := Own.cast hw1.own (by kernel_rfl)
 have hzhw1 := hw1.same
 refine VL_pure 6 [2, 3] [(2, .pointer (some ⟨b1, 0, none⟩)), (3, .int .i64 0)] (by kernel_rfl) rfl ?_
 refine VL_end (by kernel_rfl) ?_
 refine VQ_next ?_
 refine VC_ret ?_
 refine VQ_retC1T1 (T := 60) (.agg #[.int .u8 8, .slice (some ⟨b2, 0, none⟩) 2 2]) (.int .i64 0) (.inr rfl) rfl rfl rfl (Loads.ownL ho3 (n := 2) (by kernel_rfl) (by kernel_rfl) (by kernel_rfl)) ?_
 have hw : IntKind.wrap .u8 ((m : Nat) : Int) = ((m : Nat) : Int) := by rw [wrap_u8, Nat.mod_eq_of_lt (by omega)]
 have ho9 := Own.cast (c' := #[.int .u8 0, .int .u8 ((m : Nat) : Int)]) ho2 (by rw [hw])
 exact ⟨_, rfl, Rw.of_new ho9 (by omega) (by simp [maxLen]), hS⟩

set_option maxRecDepth 100000 in
set_option maxHeartbeats 4000000 in
theorem cause_neg (m : Int) (w : World) (hm : m < 0) :
  CV Try.prog 35 #[.int .i64 m] w (fun x w1 => x = .tuple #[.agg #[.int .u8 0, .slice none 0 0], .int .i64 1] ∧ Step No w w1) := by
 have hS : Step No w w := Step.refl _ _
 refine CV_enter Try.f35 _ 15 [(0, .int .i64 m)] Try.func35 rfl rfl (by kernel_rfl) rfl ?_
 refine VC_seq ?_
 refine VC_region ?_
 have hzs1 := hS.size
 refine VL_box (d := 2) (t := 60) (c := #[.int .u8 0, .slice none 0 0]) (by kernel_rfl) (by kernel_rfl) ?_
 intro b1 w1 hn1
 replace hS := Step.trans hS (hn1.step No)
 have ho1 := hn1.own
 have hzhn1 := hn1.size
 have hqhn1 := hn1.eqb
 refine VL_pure 2 [0, 2] [(0, .int .i64 m), (2, .pointer (some ⟨b1, 0, none⟩))] (by kernel_rfl) rfl ?_
 refine VL_end (by kernel_rfl) ?_
 refine VQ_next ?_
 refine VC_seq ?_
 refine VC_seq ?_
 refine VC_region ?_
 refine VL_pure 3 [0, 2, 6] [(0, .int .i64 m), (2, .pointer (some ⟨b1, 0, none⟩)), (6, .bool (decide (m < 0)))] (by kernel_rfl) rfl ?_
 refine VL_known (decide (m < 0)) (fun bV => [(0, .int .i64 m), (2, .pointer (some ⟨b1, 0, none⟩)), (6, .bool bV)]) true rfl (by simp; omega) ?_
 refine VL_pure 6 [0, 2, 9] [(0, .int .i64 m), (2, .pointer (some ⟨b1, 0, none⟩)), (9, .bool true)] (by kernel_rfl) rfl ?_
 refine VL_end (by kernel_rfl) ?_
 refine VQ_next ?_
 refine VC_true (by kernel_rfl) ?_
 refine VC_seq ?_
 refine VC_region ?_
 refine VL_pure 1 [2, 10] [(2, .pointer (some ⟨b1, 0, none⟩)), (10, .agg #[.int .u8 0, .slice none 0 0])] (by kernel_rfl) rfl ?_
 refine VL_store (b := b1) (o := 0) (vs := [.int .u8 0, .slice none 0 0]) (by kernel_rfl) (by kernel_rfl) ho1 (Nat.le_of_ble_eq_true (by kernel_rfl)) ?_
 intro w2 hw1
 replace hS := Step.transNew hS hw1.step (fun _ _ _ => by omega)
 have ho2 : Own w2 b1 #[.int .u8 0, .slice none 0 0] 60 := Own.cast hw1.own (by kernel_rfl)
 have hzhw1 := hw1.same
 refine VL_pure 3 [2, 3] [(2, .pointer (some ⟨b1, 0, none⟩)), (3, .int .i64 1)] (by kernel_rfl) rfl ?_
 refine VL_end (by kernel_rfl) ?_
 refine VQ_next ?_
 refine VC_ret ?_
 refine VQ_then_ret ?_
 refine VQ_retC1T1 (T := 60) (.agg #[.int .u8 0, .slice none 0 0]) (.int .i64 1) (.inr rfl) rfl rfl rfl (Loads.ownL ho2 (n := 2) (by kernel_rfl) (by kernel_rfl) (by kernel_rfl)) ?_
 exact ⟨rfl, hS⟩

set_option maxRecDepth 100000 in
set_option maxHeartbeats 4000000 in
theorem cause_big (m : Int) (w : World) (hm : 127 < m) :
  CV Try.prog 35 #[.int .i64 m] w (fun x w1 => x = .tuple #[.agg #[.int .u8 0, .slice none 0 0], .int .i64 1] ∧ Step No w w1) := by
 have hS : Step No w w := Step.refl _ _
 refine CV_enter Try.f35 _ 15 [(0, .int .i64 m)] Try.func35 rfl rfl (by kernel_rfl) rfl ?_
 refine VC_seq ?_
 refine VC_region ?_
 have hzs1 := hS.size
 refine VL_box (d := 2) (t := 60) (c := #[.int .u8 0, .slice none 0 0]) (by kernel_rfl) (by kernel_rfl) ?_
 intro b1 w1 hn1
 replace hS := Step.trans hS (hn1.step No)
 have ho1 := hn1.own
 have hzhn1 := hn1.size
 have hqhn1 := hn1.eqb
 refine VL_pure 2 [0, 2] [(0, .int .i64 m), (2, .pointer (some ⟨b1, 0, none⟩))] (by kernel_rfl) rfl ?_
 refine VL_end (by kernel_rfl) ?_
 refine VQ_next ?_
 refine VC_seq ?_
 refine VC_seq ?_
 refine VC_region ?_
 refine VL_pure 3 [0, 2, 6] [(0, .int .i64 m), (2, .pointer (some ⟨b1, 0, none⟩)), (6, .bool (decide (m < 0)))] (by kernel_rfl) rfl ?_
 refine VL_known (decide (m < 0)) (fun bV => [(0, .int .i64 m), (2, .pointer (some ⟨b1, 0, none⟩)), (6, .bool bV)]) false rfl (by simp; omega) ?_
 refine VL_pure 6 [0, 2, 9] [(0, .int .i64 m), (2, .pointer (some ⟨b1, 0, none⟩)), (9, .bool (decide (m > 127)))] (by kernel_rfl) rfl ?_
 refine VL_end (by kernel_rfl) ?_
 refine VQ_next ?_
 refine VC_is (b := decide (m > 127)) true (by kernel_rfl) (by simp; omega) ?_
 refine VC_ite_true ?_
 refine VC_seq ?_
 refine VC_region ?_
 refine VL_pure 1 [2, 10] [(2, .pointer (some ⟨b1, 0, none⟩)), (10, .agg #[.int .u8 0, .slice none 0 0])] (by kernel_rfl) rfl ?_
 refine VL_store (b := b1) (o := 0) (vs := [.int .u8 0, .slice none 0 0]) (by kernel_rfl) (by kernel_rfl) ho1 (Nat.le_of_ble_eq_true (by kernel_rfl)) ?_
 intro w2 hw1
 replace hS := Step.transNew hS hw1.step (fun _ _ _ => by omega)
 have ho2 : Own w2 b1 #[.int .u8 0, .slice none 0 0] 60 := Own.cast hw1.own (by kernel_rfl)
 have hzhw1 := hw1.same
 refine VL_pure 3 [2, 3] [(2, .pointer (some ⟨b1, 0, none⟩)), (3, .int .i64 1)] (by kernel_rfl) rfl ?_
 refine VL_end (by kernel_rfl) ?_
 refine VQ_next ?_
 refine VC_ret ?_
 refine VQ_then_ret ?_
 refine VQ_retC1T1 (T := 60) (.agg #[.int .u8 0, .slice none 0 0]) (.int .i64 1) (.inr rfl) rfl rfl rfl (Loads.ownL ho2 (n := 2) (by kernel_rfl) (by kernel_rfl) (by kernel_rfl)) ?_
 exact ⟨rfl, hS⟩

end Go.Proofs.Ytejpcmjokamdcaa
