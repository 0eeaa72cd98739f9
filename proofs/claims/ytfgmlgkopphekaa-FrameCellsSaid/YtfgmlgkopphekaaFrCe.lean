/- Layer 10: FrameCells. -/
import Derived.Test.YtfgmlgkopphekaaProg
import Derived.Test.YtfgmlgkopphekaaFr9
import Derived.Test.YtfgmlgkopphekaaCe1
set_option linter.unusedVariables false
set_option linter.unusedSimpArgs false
namespace Go.Proofs.Ytfgmlgkopphekaa
open Go.Vc Go.RowKit

set_option maxRecDepth 100000 in
set_option maxHeartbeats 4000000 in
theorem cells_yes (A : Option Addr) (n c : Nat) (bs : List Int) (p : Nat) (w : World) (hn : bs.length = n) (hA : Sl w w.heap.size A (iL .u8 bs)) (hc : n ≤ c) (hb : Bytes bs) (hp : p < 256) (hlon : 0 ≤ n) (hhin : n ≤ 400) :
    CV Try.prog 8 #[.slice A n c, .int .u8 ((p : Nat) : Int)] w (fun x w1 => x = .bool true ∧ Step No w w1) := by
  have hS : Step No w w := Step.refl _ _
  refine CV_enterM Try.f8 _ 61 [(0, .slice A n c), (1, .int .u8 ((p : Nat) : Int))] Try.func8 rfl rfl (by kernel_rfl) rfl ?_
  refine VC_seq ?_
  refine VC_region ?_
  have hzs1 := hS.size
  refine VL_box (d := 2) (t := 22) (c := #[.slice A n c]) (by kernel_rfl) (by kernel_rfl) ?_
  intro b1 w1 hn1
  replace hS := Step.trans hS (hn1.step No)
  replace hA := hA.no (hn1.step No)
  have ho1 := hn1.own
  have hzhn1 := hn1.size
  have hqhn1 := hn1.eqb
  have hzs2 := hS.size
  have hzl1 := ho1.lt
  refine VL_box (d := 3) (t := 5) (c := #[.int .u8 ((p : Nat) : Int)]) (by kernel_rfl) (by kernel_rfl) ?_
  intro b2 w2 hn2
  replace hS := Step.trans hS (hn2.step No)
  replace hA := hA.no (hn2.step No)
  replace ho1 := ho1.no (hn2.step No)
  have ho2 := hn2.own
  have hzhn2 := hn2.size
  have hqhn2 := hn2.eqb
  have hzs3 := hS.size
  have hzl2 := ho1.lt
  have hzl3 := ho2.lt
  refine VL_box (d := 4) (t := 4) (c := #[.bool false]) (by kernel_rfl) (by kernel_rfl) ?_
  intro b3 w3 hn3
  replace hS := Step.trans hS (hn3.step No)
  replace hA := hA.no (hn3.step No)
  replace ho1 := ho1.no (hn3.step No)
  replace ho2 := ho2.no (hn3.step No)
  have ho3 := hn3.own
  have hzhn3 := hn3.size
  have hqhn3 := hn3.eqb
  refine VL_end (by kernel_rfl) ?_
  refine VQ_next ?_
  refine VC_seq ?_
  refine VC_seq ?_
  refine VC_region ?_
  have hzs4 := hS.size
  have hzl4 := ho1.lt
  have hzl5 := ho2.lt
  have hzl6 := ho3.lt
  refine VL_call (d := 9) (f := 9) (args := #[]) (by kernel_rfl) (by kernel_rfl) (by kernel_rfl) Try.call9 (awake_any _) ?_
  rintro _ w4 ⟨rfl, hc1⟩
  replace hS := Step.trans hS hc1
  replace hA := hA.no hc1
  replace ho1 := ho1.no hc1
  replace ho2 := ho2.no hc1
  replace ho3 := ho3.no hc1
  refine VL_pure 3 [2, 3, 4, 11] [(2, .pointer (some ⟨b1, 0, none⟩)), (3, .pointer (some ⟨b2, 0, none⟩)), (4, .pointer (some ⟨b3, 0, none⟩)), (11, .bool false)] (by kernel_rfl) rfl ?_
  refine VL_load (d := 12) (t := 22) (a := ⟨b1, 0, none⟩) (v := .slice A n c) (by kernel_rfl) (by kernel_rfl) (Loads.own1 ho1 (by kernel_rfl) (by rfl)) ?_
  refine VL_pure 7 [2, 3, 4, 15] [(2, .pointer (some ⟨b1, 0, none⟩)), (3, .pointer (some ⟨b2, 0, none⟩)), (4, .pointer (some ⟨b3, 0, none⟩)), (15, .bool (decide (((n : Nat) : Int) > 400)))] (by kernel_rfl) rfl ?_
  refine VL_end (by kernel_rfl) ?_
  refine VQ_next ?_
  refine VC_is (b := decide (((n : Nat) : Int) > 400)) false (by kernel_rfl) (by first | (simp; omega) | (simp; done) | simp [*]) ?_
  refine VC_ite_false ?_
  refine VC_skip ?_
  refine VQ_next ?_
  refine VC_seq ?_
  refine VC_region ?_
  have hzs5 := hS.size
  have hzl7 := ho1.lt
  have hzl8 := ho2.lt
  have hzl9 := ho3.lt
  refine VL_box (d := 5) (t := 22) (c := #[.slice none 0 0]) (by kernel_rfl) (by kernel_rfl) ?_
  intro b4 w5 hn4
  replace hS := Step.trans hS (hn4.step No)
  replace hA := hA.no (hn4.step No)
  replace ho1 := ho1.no (hn4.step No)
  replace ho2 := ho2.no (hn4.step No)
  replace ho3 := ho3.no (hn4.step No)
  have ho4 := hn4.own
  have hzhn4 := hn4.size
  have hqhn4 := hn4.eqb
  refine VL_end (by kernel_rfl) ?_
  refine VQ_next ?_
  refine VC_seq ?_
  refine VC_region ?_
  have hzs6 := hS.size
  have hzl10 := ho1.lt
  have hzl11 := ho2.lt
  have hzl12 := ho3.lt
  have hzl13 := ho4.lt
  refine VL_box (d := 6) (t := 3) (c := #[.int .i64 0]) (by kernel_rfl) (by kernel_rfl) ?_
  intro b5 w6 hn5
  replace hS := Step.trans hS (hn5.step No)
  replace hA := hA.no (hn5.step No)
  replace ho1 := ho1.no (hn5.step No)
  replace ho2 := ho2.no (hn5.step No)
  replace ho3 := ho3.no (hn5.step No)
  replace ho4 := ho4.no (hn5.step No)
  have ho5 := hn5.own
  have hzhn5 := hn5.size
  have hqhn5 := hn5.eqb
  refine VL_store (b := b5) (o := 0) (vs := [.int .i64 0]) (by kernel_rfl) (by kernel_rfl) ho5 (Nat.le_of_ble_eq_true (by kernel_rfl)) ?_
  intro w7 hw1
  replace hS := Step.transNew hS hw1.step (fun _ _ _ => by omega)
  replace hA := hA.step hw1.step (fun k hk (hF : k = b5) => by omega)
  replace ho1 := ho1.step hw1.step (show ¬ b1 = b5 by omega)
  replace ho2 := ho2.step hw1.step (show ¬ b2 = b5 by omega)
  replace ho3 := ho3.step hw1.step (show ¬ b3 = b5 by omega)
  replace ho4 := ho4.step hw1.step (show ¬ b4 = b5 by omega)
  have ho6 : Own w7 b5 #[.int .i64 0] 3 := Own.cast hw1.own (by kernel_rfl)
  have hzhw1 := hw1.same
  refine VL_end (by kernel_rfl) ?_
  refine VQ_next ?_
  refine VC_seq ?_
  refine VC_seq ?_
  refine VC_region ?_
  refine VL_load (d := 17) (t := 22) (a := ⟨b1, 0, none⟩) (v := .slice A n c) (by kernel_rfl) (by kernel_rfl) (Loads.own1 ho1 (by kernel_rfl) (by rfl)) ?_
  have hzs7 := hS.size
  have hzl14 := ho1.lt
  have hzl15 := ho2.lt
  have hzl16 := ho3.lt
  have hzl17 := ho4.lt
  have hzl18 := ho6.lt
  refine VL_call (d := 18) (f := 18) (args := #[.slice A n c]) (by kernel_rfl) (by kernel_rfl) (by kernel_rfl) Try.call18 (cells_any A n c _) ?_
  rintro _ w8 ⟨bb1, rfl, hfbb1, hbb1, hc2⟩
  replace hS := Step.trans hS hc2
  replace hA := hA.no hc2
  replace ho1 := ho1.no hc2
  replace ho2 := ho2.no hc2
  replace ho3 := ho3.no hc2
  replace ho4 := ho4.no hc2
  replace ho6 := ho6.no hc2
  have hzbb1 := hbb1.lt
  refine VL_end (by kernel_rfl) ?_
  refine VQ_next ?_
  refine VC_block ?_
  have hzs8 := hS.size
  have hzl19 := ho1.lt
  have hzl20 := ho2.lt
  have hzl21 := ho3.lt
  have hzl22 := ho4.lt
  have hzl23 := ho6.lt
  have hzl24 := hbb1.lt
  refine VC_range (gf := 26) (lb := #[.pointer (some ⟨bb1, 0, none⟩)]) (xs := (cellsV bs)) (by kernel_rfl) Try.call26 (cells_iter bb1 n c w.heap.size A bs hn (by omega) hc) (fun a ha => by obtain ⟨x, _, rfl⟩ := List.mem_map.1 ha; rfl) (by kernel_rfl) (fun M i => i = b4 ∨ i = b5 ∨ i = b3 ∨ M ≤ i) (fun M i hi => by (try simp only at hi); omega) (fun M k W => ∃ (A' : Option Addr) (c' : Nat), w8.heap.size + 2 ≤ M ∧ k ≤ p ∧ 48 * k ≤ n ∧ Step No w W ∧ Sl W w.heap.size A (iL .u8 bs) ∧ Own W b1 #[.slice A n c] 22 ∧ Own W b2 #[.int .u8 ((p : Nat) : Int)] 5 ∧ Own W b3 #[.bool false] 4 ∧ Own W bb1 #[.slice A n c] 22 ∧ Own W b5 #[.int .i64 ((k : Nat) : Int)] 3 ∧ Own W b4 #[.slice A' (48 * k) c'] 22 ∧ Rw W M 5 A' (48 * k) c' (iL .u8 (bs.take (48 * k)))) (fun e W => ∃ M k, e = Exit.exit 0 ∧ k = p + 1 ∧ (∃ (A' : Option Addr) (c' : Nat), w8.heap.size + 2 ≤ M ∧ k ≤ p + 1 ∧ 48 * k ≤ n ∧ Step No w W ∧ Sl W w.heap.size A (iL .u8 bs) ∧ Own W b1 #[.slice A n c] 22 ∧ Own W b2 #[.int .u8 ((p : Nat) : Int)] 5 ∧ Own W b3 #[.bool false] 4 ∧ Own W bb1 #[.slice A n c] 22 ∧ Own W b5 #[.int .i64 ((k : Nat) : Int)] 3 ∧ Own W b4 #[.slice A' (48 * k) c'] 22 ∧ Rw W M 5 A' (48 * k) c' (iL .u8 (bs.take (48 * k))))) (by rintro M k W W' ⟨A', c', hMm, hkp, hk48, hS, hA, ho1, ho2, ho3, hbb1, ho6, ho4, hRw⟩ hs; exact ⟨_, _, hMm, hkp, hk48, Step.transNew hS hs (fun i hi hG => by have : i = (w8.heap.size + 1) := hG; omega), hA.step hs (fun k hk (hF : k = (w8.heap.size + 1)) => by omega), ho1.step hs (show ¬ b1 = (w8.heap.size + 1) by omega), ho2.step hs (show ¬ b2 = (w8.heap.size + 1) by omega), ho3.step hs (show ¬ b3 = (w8.heap.size + 1) by omega), hbb1.step hs (show ¬ bb1 = (w8.heap.size + 1) by omega), ho6.step hs (show ¬ b5 = (w8.heap.size + 1) by omega), ho4.step hs (show ¬ b4 = (w8.heap.size + 1) by omega), hRw.step hs (fun k hk (hF : k = (w8.heap.size + 1)) => by omega)⟩) (by rintro e W W' ⟨M, k, he, hk1, A', c', hMm, hkp, hk48, hS, hA, ho1, ho2, ho3, hbb1, ho6, ho4, hRw⟩ hs; exact ⟨M, k, he, hk1, _, _, hMm, hkp, hk48, Step.transNew hS hs (fun i hi hG => by have : i = (w8.heap.size + 1) := hG; omega), hA.step hs (fun k hk (hF : k = (w8.heap.size + 1)) => by omega), ho1.step hs (show ¬ b1 = (w8.heap.size + 1) by omega), ho2.step hs (show ¬ b2 = (w8.heap.size + 1) by omega), ho3.step hs (show ¬ b3 = (w8.heap.size + 1) by omega), hbb1.step hs (show ¬ bb1 = (w8.heap.size + 1) by omega), ho6.step hs (show ¬ b5 = (w8.heap.size + 1) by omega), ho4.step hs (show ¬ b4 = (w8.heap.size + 1) by omega), hRw.step hs (fun k hk (hF : k = (w8.heap.size + 1)) => by omega)⟩) (by rintro M k W W' ⟨A', c', hMm, hkp, hk48, hS, hA, ho1, ho2, ho3, hbb1, ho6, ho4, hRw⟩ hs; exact ⟨_, _, hMm, hkp, hk48, Step.trans hS hs, hA.no hs, ho1.no hs, ho2.no hs, ho3.no hs, hbb1.no hs, ho6.no hs, ho4.no hs, hRw.no hs⟩) (by rintro e W W' ⟨M, k, he, hk1, A', c', hMm, hkp, hk48, hS, hA, ho1, ho2, ho3, hbb1, ho6, ho4, hRw⟩ hs; exact ⟨M, k, he, hk1, _, _, hMm, hkp, hk48, Step.trans hS hs, hA.no hs, ho1.no hs, ho2.no hs, ho3.no hs, hbb1.no hs, ho6.no hs, ho4.no hs, hRw.no hs⟩) (by rintro M k W ⟨A', c', hMm, hkp, hk48, hS, hA, ho1, ho2, ho3, hbb1, ho6, ho4, hRw⟩; exact ⟨hbb1, hA⟩) (fun W hs => ⟨hbb1.no hs, hA.no hs⟩) (fun M W hM hM2 hs _ => ⟨none, 0, hM, by omega, by omega, Step.trans hS hs, hA.no hs, ho1.no hs, ho2.no hs, ho3.no hs, hbb1.no hs, ho6.no hs, ho4.no hs, Rw.nil _ _ _⟩) ?_ ?_ ?_
  · intro M k w9 args hM hM2 hx hJ0 hsz
    obtain ⟨A', c', hMm, hkp, hk48, hS, hA, ho1, ho2, ho3, hbb1, ho6, ho4, hRw⟩ := hJ0
    obtain ⟨hk9, rfl⟩ := cellsV_inv hn hx
    have hML : M ≤ w9.heap.size := hM2
    have hAs : Step No w9 w9 := Step.refl _ _
    refine VC_keep [2, 3, 4, 5, 6, 19, 20] [(2, .pointer (some ⟨b1, 0, none⟩)), (3, .pointer (some ⟨b2, 0, none⟩)), (4, .pointer (some ⟨b3, 0, none⟩)), (5, .pointer (some ⟨b4, 0, none⟩)), (6, .pointer (some ⟨b5, 0, none⟩)), (19, .agg (iA .u8 ((bs.drop (48 * k)).take 48))), (20, .bool (((n - 48 * k : Nat) : Int) == 48))] (by kernel_rfl) ?_
    refine VC_seq ?_
    refine VC_region ?_
    have hzs9 := hS.size
    have hzl25 := ho1.lt
    have hzl26 := ho2.lt
    have hzl27 := ho3.lt
    have hzl28 := hbb1.lt
    have hzl29 := ho6.lt
    have hzl30 := ho4.lt
    have hzk1 := hML
    have hzs10 := hAs.size
    have hzs11 := hS.size
    have hzl31 := ho1.lt
    have hzl32 := ho2.lt
    have hzl33 := ho3.lt
    have hzl34 := hbb1.lt
    have hzl35 := ho6.lt
    have hzl36 := ho4.lt
    have hzk2 := hML
    have hzs12 := hAs.size
    refine VL_box (d := 7) (t := 40) (c := iA .u8 (List.replicate 48 0)) (by kernel_rfl) (by kernel_rfl) ?_
    intro b6 w10 hn6
    replace hS := Step.trans hS (hn6.step No)
    replace hA := hA.no (hn6.step No)
    replace ho1 := ho1.no (hn6.step No)
    replace ho2 := ho2.no (hn6.step No)
    replace ho3 := ho3.no (hn6.step No)
    replace hbb1 := hbb1.no (hn6.step No)
    replace ho6 := ho6.no (hn6.step No)
    replace ho4 := ho4.no (hn6.step No)
    replace hML := Nat.le_trans hML (hn6.step No).size
    replace hAs := Step.trans hAs (hn6.step No)
    have ho7 := hn6.own
    have hzhn6 := hn6.size
    have hqhn6 := hn6.eqb
    refine VL_storeA (b := b6) (sz := 48) (k := .u8) (bs := (bs.drop (48 * k)).take 48) (by kernel_rfl) (by kernel_rfl) (by (try simp only [List.length_set, List.length_append, List.length_map, List.length_replicate, List.length_cons, List.length_nil, List.length_take, List.length_drop, List.length_range]) <;> omega) ho7 (iA_size.trans (by (try simp only [List.length_set, List.length_append, List.length_map, List.length_replicate, List.length_cons, List.length_nil, List.length_take, List.length_drop, List.length_range]) <;> omega)) ?_
    intro w11 hw2
    replace hS := Step.transNew hS hw2.step (fun _ _ _ => by omega)
    replace hA := hA.step hw2.step (fun k hk (hF : k = b6) => by omega)
    replace ho1 := ho1.step hw2.step (show ¬ b1 = b6 by omega)
    replace ho2 := ho2.step hw2.step (show ¬ b2 = b6 by omega)
    replace ho3 := ho3.step hw2.step (show ¬ b3 = b6 by omega)
    replace hbb1 := hbb1.step hw2.step (show ¬ bb1 = b6 by omega)
    replace ho6 := ho6.step hw2.step (show ¬ b5 = b6 by omega)
    replace ho4 := ho4.step hw2.step (show ¬ b4 = b6 by omega)
    replace hML := Nat.le_trans hML (hw2.step).size
    replace hAs := Step.transNew hAs hw2.step (fun _ _ _ => by omega)
    have ho8 := hw2.own
    have hzhw2 := hw2.same
    refine VL_end (by kernel_rfl) ?_
    refine VQ_next ?_
    refine VC_region ?_
    refine VL_pure 1 [2, 3, 4, 5, 6, 19, 20, 7, 8] [(2, .pointer (some ⟨b1, 0, none⟩)), (3, .pointer (some ⟨b2, 0, none⟩)), (4, .pointer (some ⟨b3, 0, none⟩)), (5, .pointer (some ⟨b4, 0, none⟩)), (6, .pointer (some ⟨b5, 0, none⟩)), (19, .agg (iA .u8 ((bs.drop (48 * k)).take 48))), (20, .bool (((n - 48 * k : Nat) : Int) == 48)), (7, .pointer (some ⟨b6, 0, none⟩)), (8, .bool (((n - 48 * k : Nat) : Int) == 48))] (by kernel_rfl) rfl ?_
    refine VL_end (by kernel_rfl) ?_
    refine VQ_begin hAs ?_
    intro w12 hb1 hzhb1
    have hzs13 := hS.size
    have hzl37 := ho1.lt
    have hzl38 := ho2.lt
    have hzl39 := ho3.lt
    have hzl40 := hbb1.lt
    have hzl41 := ho6.lt
    have hzl42 := ho4.lt
    have hzk3 := hML
    have hzl43 := ho8.lt
    replace hS := Step.transNew hS hb1 (fun _ _ _ => by omega)
    replace hA := hA.step hb1 (fun k hk (hF : k = (w8.heap.size + 1)) => by omega)
    replace ho1 := ho1.step hb1 (show ¬ b1 = (w8.heap.size + 1) by omega)
    replace ho2 := ho2.step hb1 (show ¬ b2 = (w8.heap.size + 1) by omega)
    replace ho3 := ho3.step hb1 (show ¬ b3 = (w8.heap.size + 1) by omega)
    replace hbb1 := hbb1.step hb1 (show ¬ bb1 = (w8.heap.size + 1) by omega)
    replace ho6 := ho6.step hb1 (show ¬ b5 = (w8.heap.size + 1) by omega)
    replace ho4 := ho4.step hb1 (show ¬ b4 = (w8.heap.size + 1) by omega)
    replace hML := Nat.le_trans hML (hb1).size
    replace ho8 := ho8.step hb1 (show ¬ b6 = (w8.heap.size + 1) by omega)
    have hR1 : Step ((fun M i => i = b4 ∨ i = b5 ∨ i = b3 ∨ M ≤ i) M) w12 w12 := Step.refl _ _
    replace hRw := (hRw.no hAs).step hb1 (fun i hi (hF : i = (w8.heap.size + 1)) => by omega)
    refine VC_block ?_
    refine VC_seq ?_
    refine VC_seq ?_
    refine VC_region ?_
    refine VL_pure 1 [2, 3, 4, 5, 6, 7, 21] [(2, .pointer (some ⟨b1, 0, none⟩)), (3, .pointer (some ⟨b2, 0, none⟩)), (4, .pointer (some ⟨b3, 0, none⟩)), (5, .pointer (some ⟨b4, 0, none⟩)), (6, .pointer (some ⟨b5, 0, none⟩)), (7, .pointer (some ⟨b6, 0, none⟩)), (21, .bool (((n - 48 * k : Nat) : Int) == 48))] (by kernel_rfl) rfl ?_
    refine VL_load (d := 22) (t := 22) (a := ⟨b1, 0, none⟩) (v := .slice A n c) (by kernel_rfl) (by kernel_rfl) (Loads.own1 ho1 (by kernel_rfl) (by rfl)) ?_
    refine VL_pure 4 [2, 3, 4, 5, 6, 7, 21, 24] [(2, .pointer (some ⟨b1, 0, none⟩)), (3, .pointer (some ⟨b2, 0, none⟩)), (4, .pointer (some ⟨b3, 0, none⟩)), (5, .pointer (some ⟨b4, 0, none⟩)), (6, .pointer (some ⟨b5, 0, none⟩)), (7, .pointer (some ⟨b6, 0, none⟩)), (21, .bool (((n - 48 * k : Nat) : Int) == 48)), (24, .int .i64 (((n : Nat) : Int).tmod 48))] (by kernel_rfl) rfl ?_
    have he1 : ((n : Nat) : Int).tmod 48 = ((n % 48 : Nat) : Int) := (tmod_nat n 48)
    refine VL_eq [(2, .pointer (some ⟨b1, 0, none⟩)), (3, .pointer (some ⟨b2, 0, none⟩)), (4, .pointer (some ⟨b3, 0, none⟩)), (5, .pointer (some ⟨b4, 0, none⟩)), (6, .pointer (some ⟨b5, 0, none⟩)), (7, .pointer (some ⟨b6, 0, none⟩)), (21, .bool (((n - 48 * k : Nat) : Int) == 48)), (24, .int .i64 ((n % 48 : Nat) : Int))] (by rw [he1]) ?_
    refine VL_pure 6 [2, 3, 4, 5, 6, 7, 21, 26] [(2, .pointer (some ⟨b1, 0, none⟩)), (3, .pointer (some ⟨b2, 0, none⟩)), (4, .pointer (some ⟨b3, 0, none⟩)), (5, .pointer (some ⟨b4, 0, none⟩)), (6, .pointer (some ⟨b5, 0, none⟩)), (7, .pointer (some ⟨b6, 0, none⟩)), (21, .bool (((n - 48 * k : Nat) : Int) == 48)), (26, .bool (((n % 48 : Nat) : Int) == 0))] (by kernel_rfl) rfl ?_
    refine VL_beq ((n % 48 : Nat) : Int) 0 (fun bV => [(2, .pointer (some ⟨b1, 0, none⟩)), (3, .pointer (some ⟨b2, 0, none⟩)), (4, .pointer (some ⟨b3, 0, none⟩)), (5, .pointer (some ⟨b4, 0, none⟩)), (6, .pointer (some ⟨b5, 0, none⟩)), (7, .pointer (some ⟨b6, 0, none⟩)), (21, .bool (((n - 48 * k : Nat) : Int) == 48)), (26, .bool bV)]) rfl (fun hg1 => ?_) (fun hg1 => ?_)
    · refine VL_load (d := 27) (t := 3) (a := ⟨b5, 0, none⟩) (v := .int .i64 ((k : Nat) : Int)) (by kernel_rfl) (by kernel_rfl) (Loads.own1 ho6 (by kernel_rfl) (by rfl)) ?_
      refine VL_load (d := 28) (t := 22) (a := ⟨b1, 0, none⟩) (v := .slice A n c) (by kernel_rfl) (by kernel_rfl) (Loads.own1 ho1 (by kernel_rfl) (by rfl)) ?_
      refine VL_pure 10 [3, 4, 5, 6, 7, 21, 26, 27, 30] [(3, .pointer (some ⟨b2, 0, none⟩)), (4, .pointer (some ⟨b3, 0, none⟩)), (5, .pointer (some ⟨b4, 0, none⟩)), (6, .pointer (some ⟨b5, 0, none⟩)), (7, .pointer (some ⟨b6, 0, none⟩)), (21, .bool (((n - 48 * k : Nat) : Int) == 48)), (26, .bool true), (27, .int .i64 ((k : Nat) : Int)), (30, .int .i64 (IntKind.wrap .i64 (((n : Nat) : Int).tdiv 48)))] (by kernel_rfl) rfl ?_
      have he2 : IntKind.wrap .i64 (((n : Nat) : Int).tdiv 48) = ((n / 48 : Nat) : Int) := (by rw [show ((n : Nat) : Int).tdiv 48 = ((n / 48 : Nat) : Int) from tdiv_nat n 48, wrap_i64 _ (by omega) (by omega)])
      refine VL_eq [(3, .pointer (some ⟨b2, 0, none⟩)), (4, .pointer (some ⟨b3, 0, none⟩)), (5, .pointer (some ⟨b4, 0, none⟩)), (6, .pointer (some ⟨b5, 0, none⟩)), (7, .pointer (some ⟨b6, 0, none⟩)), (21, .bool (((n - 48 * k : Nat) : Int) == 48)), (26, .bool true), (27, .int .i64 ((k : Nat) : Int)), (30, .int .i64 ((n / 48 : Nat) : Int))] (by rw [he2]) ?_
      refine VL_pure 11 [3, 4, 5, 6, 7, 21, 26, 27, 31] [(3, .pointer (some ⟨b2, 0, none⟩)), (4, .pointer (some ⟨b3, 0, none⟩)), (5, .pointer (some ⟨b4, 0, none⟩)), (6, .pointer (some ⟨b5, 0, none⟩)), (7, .pointer (some ⟨b6, 0, none⟩)), (21, .bool (((n - 48 * k : Nat) : Int) == 48)), (26, .bool true), (27, .int .i64 ((k : Nat) : Int)), (31, .int .i64 (IntKind.wrap .i64 (((n / 48 : Nat) : Int) - 1)))] (by kernel_rfl) rfl ?_
      have he3 : IntKind.wrap .i64 (((n / 48 : Nat) : Int) - 1) = (((n / 48) - 1 : Nat) : Int) := (by rw [wrap_i64 _ (by omega) (by omega)]; omega)
      refine VL_eq [(3, .pointer (some ⟨b2, 0, none⟩)), (4, .pointer (some ⟨b3, 0, none⟩)), (5, .pointer (some ⟨b4, 0, none⟩)), (6, .pointer (some ⟨b5, 0, none⟩)), (7, .pointer (some ⟨b6, 0, none⟩)), (21, .bool (((n - 48 * k : Nat) : Int) == 48)), (26, .bool true), (27, .int .i64 ((k : Nat) : Int)), (31, .int .i64 (((n / 48) - 1 : Nat) : Int))] (by rw [he3]) ?_
      refine VL_pure 14 [3, 4, 5, 6, 7, 34] [(3, .pointer (some ⟨b2, 0, none⟩)), (4, .pointer (some ⟨b3, 0, none⟩)), (5, .pointer (some ⟨b4, 0, none⟩)), (6, .pointer (some ⟨b5, 0, none⟩)), (7, .pointer (some ⟨b6, 0, none⟩)), (34, .bool (!((((n - 48 * k : Nat) : Int) == 48) == (((k : Nat) : Int) == (((n / 48) - 1 : Nat) : Int)))))] (by kernel_rfl) rfl ?_
      refine VL_end (by kernel_rfl) ?_
      refine VQ_next ?_
      refine VC_is (b := !((((n - 48 * k : Nat) : Int) == 48) == (((k : Nat) : Int) == (((n / 48) - 1 : Nat) : Int)))) false (by kernel_rfl) (by first | exact last_T hk9 (by assumption) | exact last_F hk9 (by assumption)) ?_
      refine VC_ite_false ?_
      refine VC_skip ?_
      refine VQ_next ?_
      refine VC_seq ?_
      refine VC_det [[], [], [0, 1], [0, 1, 2]] 2 [.slice A' (48 * k) c', .slice (some ⟨b6, 0, none⟩) 48 48] [1] [0] (by kernel_rfl) (by kernel_rfl) (by kernel_rfl) (by kernel_rfl) ?_ ?_
      · intro w13 hs1
        replace hS := Step.trans hS hs1
        replace hA := hA.no hs1
        replace ho1 := ho1.no hs1
        replace ho2 := ho2.no hs1
        replace ho3 := ho3.no hs1
        replace hbb1 := hbb1.no hs1
        replace ho6 := ho6.no hs1
        replace ho4 := ho4.no hs1
        replace hML := Nat.le_trans hML (hs1).size
        replace ho8 := ho8.no hs1
        replace hR1 := Step.trans hR1 (Step.weak hs1)
        replace hRw := hRw.no hs1
        exact ⟨Det1_load (d := 35) (t := 22) (a := ⟨b4, 0, none⟩) (by kernel_rfl) (by kernel_rfl) (Loads.own1 ho4 (by kernel_rfl) (by rfl)), trivial⟩
      intro w13 hs1
      replace hS := Step.trans hS hs1
      replace hA := hA.no hs1
      replace ho1 := ho1.no hs1
      replace ho2 := ho2.no hs1
      replace ho3 := ho3.no hs1
      replace hbb1 := hbb1.no hs1
      replace ho6 := ho6.no hs1
      replace ho4 := ho4.no hs1
      replace hML := Nat.le_trans hML (hs1).size
      replace ho8 := ho8.no hs1
      replace hR1 := Step.trans hR1 (Step.weak hs1)
      replace hRw := hRw.no hs1
      refine VL_keep [3, 5, 6, 35, 36] [(3, .pointer (some ⟨b2, 0, none⟩)), (5, .pointer (some ⟨b4, 0, none⟩)), (6, .pointer (some ⟨b5, 0, none⟩)), (35, .slice A' (48 * k) c'), (36, .slice (some ⟨b6, 0, none⟩) 48 48)] (by kernel_rfl) ?_
      have hzs14 := hS.size
      have hzl44 := ho1.lt
      have hzl45 := ho2.lt
      have hzl46 := ho3.lt
      have hzl47 := hbb1.lt
      have hzl48 := ho6.lt
      have hzl49 := ho4.lt
      have hzk4 := hML
      have hzl50 := ho8.lt
      have hzs15 := hR1.size
      refine VL_appendS (d := 37) (e := 5) (A := A') (m := (48 * k)) (c := c') (A2 := (some ⟨b6, 0, none⟩)) (m2 := 48) (c2 := 48) (bytes := 1) (by kernel_rfl) (by kernel_rfl) (by kernel_rfl) M w13.heap.size (iL .u8 (bs.take (48 * k))) (iL .u8 ((bs.drop (48 * k)).take 48)) hRw (by rw [iL_length]; exact (by (try simp only [List.length_set, List.length_append, List.length_map, List.length_replicate, List.length_cons, List.length_nil, List.length_take, List.length_drop, List.length_range]) <;> omega)) (Sl.mono (Own.slI ho8 ho8.lt) (by first | exact Nat.le_refl _ | omega)) iL_one ((48 * k) + 48) (by omega) (by simp only [maxLen]; omega) (by omega) (by omega) ?_
      intro A1 c1 w14 hr1 hg2
      replace hr1 : Rw w14 M 5 A1 ((48 * k) + 48) c1 (iL .u8 ((bs.take (48 * k)) ++ ((bs.drop (48 * k)).take 48))) := Rw.cast hr1 rfl (by simp only [iL, List.map_append, List.map_cons, List.map_nil, List.append_assoc, List.cons_append, List.nil_append, List.append_nil])
      have hzhg2 := hg2.size
      replace hS := Step.transNew hS hg2 (fun i hi hG => by (try simp only at hG); omega)
      replace hA := hA.step hg2 (fun k hk hG => by (try simp only at hG); omega)
      replace ho1 := ho1.step hg2 (by (try simp only); omega)
      replace ho2 := ho2.step hg2 (by (try simp only); omega)
      replace ho3 := ho3.step hg2 (by (try simp only); omega)
      replace hbb1 := hbb1.step hg2 (by (try simp only); omega)
      replace ho6 := ho6.step hg2 (by (try simp only); omega)
      replace ho4 := ho4.step hg2 (by (try simp only); omega)
      replace hML := Nat.le_trans hML (hg2).size
      replace hR1 := Step.transNew hR1 hg2 (fun i hi hG => by (try simp only at hG); (first | show _ ∨ _ | show _ = _); omega)
      refine VL_store (b := b4) (o := 0) (vs := [.slice A1 ((48 * k) + 48) c1]) (by kernel_rfl) (by kernel_rfl) ho4 (Nat.le_of_ble_eq_true (by kernel_rfl)) ?_
      intro w15 hw3
      replace hS := Step.transNew hS hw3.step (fun _ _ _ => by omega)
      replace hA := hA.step hw3.step (fun k hk (hF : k = b4) => by omega)
      replace ho1 := ho1.step hw3.step (show ¬ b1 = b4 by omega)
      replace ho2 := ho2.step hw3.step (show ¬ b2 = b4 by omega)
      replace ho3 := ho3.step hw3.step (show ¬ b3 = b4 by omega)
      replace hbb1 := hbb1.step hw3.step (show ¬ bb1 = b4 by omega)
      replace ho6 := ho6.step hw3.step (show ¬ b5 = b4 by omega)
      replace hML := Nat.le_trans hML (hw3.step).size
      replace hR1 := Step.trans hR1 (Step.mono hw3.step (by intro i hi; first | exact hi | (have hi9 : i = b4 := hi; (first | show _ ∨ _ | show _ = _); omega)))
      replace hr1 := hr1.step hw3.step (fun k hk (hF : k = b4) => by omega)
      have ho9 : Own w15 b4 #[.slice A1 ((48 * k) + 48) c1] 22 := Own.cast hw3.own (by kernel_rfl)
      have hzhw3 := hw3.same
      refine VL_end (by kernel_rfl) ?_
      refine VQ_next ?_
      refine VC_seq ?_
      refine VC_region ?_
      refine VL_load (d := 38) (t := 3) (a := ⟨b5, 0, none⟩) (v := .int .i64 ((k : Nat) : Int)) (by kernel_rfl) (by kernel_rfl) (Loads.own1 ho6 (by kernel_rfl) (by rfl)) ?_
      refine VL_pure 2 [3, 6, 39] [(3, .pointer (some ⟨b2, 0, none⟩)), (6, .pointer (some ⟨b5, 0, none⟩)), (39, .int .i64 (IntKind.wrap .i64 (((k : Nat) : Int) + 1)))] (by kernel_rfl) rfl ?_
      have he4 : IntKind.wrap .i64 (((k : Nat) : Int) + 1) = ((k + 1 : Nat) : Int) := (by rw [wrap_i64 _ (by omega) (by omega)]; omega)
      refine VL_eq [(3, .pointer (some ⟨b2, 0, none⟩)), (6, .pointer (some ⟨b5, 0, none⟩)), (39, .int .i64 ((k + 1 : Nat) : Int))] (by rw [he4]) ?_
      refine VL_store (b := b5) (o := 0) (vs := [.int .i64 ((k + 1 : Nat) : Int)]) (by kernel_rfl) (by kernel_rfl) ho6 (Nat.le_of_ble_eq_true (by kernel_rfl)) ?_
      intro w16 hw4
      replace hS := Step.transNew hS hw4.step (fun _ _ _ => by omega)
      replace hA := hA.step hw4.step (fun k hk (hF : k = b5) => by omega)
      replace ho1 := ho1.step hw4.step (show ¬ b1 = b5 by omega)
      replace ho2 := ho2.step hw4.step (show ¬ b2 = b5 by omega)
      replace ho3 := ho3.step hw4.step (show ¬ b3 = b5 by omega)
      replace hbb1 := hbb1.step hw4.step (show ¬ bb1 = b5 by omega)
      replace hML := Nat.le_trans hML (hw4.step).size
      replace hR1 := Step.trans hR1 (Step.mono hw4.step (by intro i hi; first | exact hi | (have hi9 : i = b5 := hi; (first | show _ ∨ _ | show _ = _); omega)))
      replace hr1 := hr1.step hw4.step (fun k hk (hF : k = b5) => by omega)
      replace ho9 := ho9.step hw4.step (show ¬ b4 = b5 by omega)
      have ho10 : Own w16 b5 #[.int .i64 ((k + 1 : Nat) : Int)] 3 := Own.cast hw4.own (by kernel_rfl)
      have hzhw4 := hw4.same
      refine VL_end (by kernel_rfl) ?_
      refine VQ_next ?_
      refine VC_seq ?_
      refine VC_region ?_
      refine VL_load (d := 40) (t := 3) (a := ⟨b5, 0, none⟩) (v := .int .i64 ((k + 1 : Nat) : Int)) (by kernel_rfl) (by kernel_rfl) (Loads.own1 ho10 (by kernel_rfl) (by rfl)) ?_
      refine VL_load (d := 41) (t := 5) (a := ⟨b2, 0, none⟩) (v := .int .u8 ((p : Nat) : Int)) (by kernel_rfl) (by kernel_rfl) (Loads.own1 ho2 (by kernel_rfl) (by rfl)) ?_
      refine VL_pure 3 [40, 42] [(40, .int .i64 ((k + 1 : Nat) : Int)), (42, .int .i64 (IntKind.wrap .i64 ((p : Nat) : Int)))] (by kernel_rfl) rfl ?_
      have he5 : IntKind.wrap .i64 ((p : Nat) : Int) = ((p : Nat) : Int) := (by rw [wrap_i64 _ (by omega) (by omega)])
      refine VL_eq [(40, .int .i64 ((k + 1 : Nat) : Int)), (42, .int .i64 ((p : Nat) : Int))] (by rw [he5]) ?_
      refine VL_pure 4 [43] [(43, .bool (decide (((k + 1 : Nat) : Int) > ((p : Nat) : Int))))] (by kernel_rfl) rfl ?_
      refine VL_end (by kernel_rfl) ?_
      refine VQ_next ?_
      refine VC_dec (((k + 1 : Nat) : Int) > ((p : Nat) : Int)) (by kernel_rfl) (fun h1 => ?_) (fun h1 => ?_)
      · refine VC_exit ?_
        refine VQ_block_miss (by kernel_rfl) ?_
        have hzs16 := hS.size
        have hzl51 := ho1.lt
        have hzl52 := ho2.lt
        have hzl53 := ho3.lt
        have hzl54 := hbb1.lt
        have hzk5 := hML
        have hzs17 := hR1.size
        have hzl55 := ho9.lt
        have hzl56 := ho10.lt
        exact VQ_round_exit hR1 ⟨M, k + 1, rfl, by omega, _, _, hMm, (by omega), (by omega), hS, hA, ho1, ho2, ho3, hbb1, (Own.cast ho10 (by first | rfl | (simp only [Int.natCast_add]; rfl))), (Own.cast ho9 (by rw [Nat.mul_add])), (Rw.cast hr1 (by omega) (congrArg (iL .u8) (by rw [show 48 * (k + 1) = 48 * k + 48 by omega, List.take_add])))⟩
      · refine VC_skip ?_
        refine VQ_block_normal ?_
        have hzs18 := hS.size
        have hzl57 := ho1.lt
        have hzl58 := ho2.lt
        have hzl59 := ho3.lt
        have hzl60 := hbb1.lt
        have hzk6 := hML
        have hzs19 := hR1.size
        have hzl61 := ho9.lt
        have hzl62 := ho10.lt
        exact VQ_round_end hR1 ⟨_, _, hMm, (by omega), (by omega), hS, hA, ho1, ho2, ho3, hbb1, (Own.cast ho10 (by first | rfl | (simp only [Int.natCast_add]; rfl))), (Own.cast ho9 (by rw [Nat.mul_add])), (Rw.cast hr1 (by omega) (congrArg (iL .u8) (by rw [show 48 * (k + 1) = 48 * k + 48 by omega, List.take_add])))⟩
    · refine VL_pure 14 [3, 4, 5, 6, 7, 34] [(3, .pointer (some ⟨b2, 0, none⟩)), (4, .pointer (some ⟨b3, 0, none⟩)), (5, .pointer (some ⟨b4, 0, none⟩)), (6, .pointer (some ⟨b5, 0, none⟩)), (7, .pointer (some ⟨b6, 0, none⟩)), (34, .bool (!((((n - 48 * k : Nat) : Int) == 48) == false)))] (by kernel_rfl) rfl ?_
      refine VL_end (by kernel_rfl) ?_
      refine VQ_next ?_
      refine VC_is (b := !((((n - 48 * k : Nat) : Int) == 48) == false)) false (by kernel_rfl) (by first | exact last_T hk9 (by assumption) | exact last_F hk9 (by assumption)) ?_
      refine VC_ite_false ?_
      refine VC_skip ?_
      refine VQ_next ?_
      refine VC_seq ?_
      refine VC_det [[], [], [0, 1], [0, 1, 2]] 2 [.slice A' (48 * k) c', .slice (some ⟨b6, 0, none⟩) 48 48] [1] [0] (by kernel_rfl) (by kernel_rfl) (by kernel_rfl) (by kernel_rfl) ?_ ?_
      · intro w17 hs2
        replace hS := Step.trans hS hs2
        replace hA := hA.no hs2
        replace ho1 := ho1.no hs2
        replace ho2 := ho2.no hs2
        replace ho3 := ho3.no hs2
        replace hbb1 := hbb1.no hs2
        replace ho6 := ho6.no hs2
        replace ho4 := ho4.no hs2
        replace hML := Nat.le_trans hML (hs2).size
        replace ho8 := ho8.no hs2
        replace hR1 := Step.trans hR1 (Step.weak hs2)
        replace hRw := hRw.no hs2
        exact ⟨Det1_load (d := 35) (t := 22) (a := ⟨b4, 0, none⟩) (by kernel_rfl) (by kernel_rfl) (Loads.own1 ho4 (by kernel_rfl) (by rfl)), trivial⟩
      intro w17 hs2
      replace hS := Step.trans hS hs2
      replace hA := hA.no hs2
      replace ho1 := ho1.no hs2
      replace ho2 := ho2.no hs2
      replace ho3 := ho3.no hs2
      replace hbb1 := hbb1.no hs2
      replace ho6 := ho6.no hs2
      replace ho4 := ho4.no hs2
      replace hML := Nat.le_trans hML (hs2).size
      replace ho8 := ho8.no hs2
      replace hR1 := Step.trans hR1 (Step.weak hs2)
      replace hRw := hRw.no hs2
      refine VL_keep [3, 5, 6, 35, 36] [(3, .pointer (some ⟨b2, 0, none⟩)), (5, .pointer (some ⟨b4, 0, none⟩)), (6, .pointer (some ⟨b5, 0, none⟩)), (35, .slice A' (48 * k) c'), (36, .slice (some ⟨b6, 0, none⟩) 48 48)] (by kernel_rfl) ?_
      have hzs20 := hS.size
      have hzl63 := ho1.lt
      have hzl64 := ho2.lt
      have hzl65 := ho3.lt
      have hzl66 := hbb1.lt
      have hzl67 := ho6.lt
      have hzl68 := ho4.lt
      have hzk7 := hML
      have hzl69 := ho8.lt
      have hzs21 := hR1.size
      refine VL_appendS (d := 37) (e := 5) (A := A') (m := (48 * k)) (c := c') (A2 := (some ⟨b6, 0, none⟩)) (m2 := 48) (c2 := 48) (bytes := 1) (by kernel_rfl) (by kernel_rfl) (by kernel_rfl) M w17.heap.size (iL .u8 (bs.take (48 * k))) (iL .u8 ((bs.drop (48 * k)).take 48)) hRw (by rw [iL_length]; exact (by (try simp only [List.length_set, List.length_append, List.length_map, List.length_replicate, List.length_cons, List.length_nil, List.length_take, List.length_drop, List.length_range]) <;> omega)) (Sl.mono (Own.slI ho8 ho8.lt) (by first | exact Nat.le_refl _ | omega)) iL_one ((48 * k) + 48) (by omega) (by simp only [maxLen]; omega) (by omega) (by omega) ?_
      intro A2 c2 w18 hr2 hg3
      replace hr2 : Rw w18 M 5 A2 ((48 * k) + 48) c2 (iL .u8 ((bs.take (48 * k)) ++ ((bs.drop (48 * k)).take 48))) := Rw.cast hr2 rfl (by simp only [iL, List.map_append, List.map_cons, List.map_nil, List.append_assoc, List.cons_append, List.nil_append, List.append_nil])
      have hzhg3 := hg3.size
      replace hS := Step.transNew hS hg3 (fun i hi hG => by (try simp only at hG); omega)
      replace hA := hA.step hg3 (fun k hk hG => by (try simp only at hG); omega)
      replace ho1 := ho1.step hg3 (by (try simp only); omega)
      replace ho2 := ho2.step hg3 (by (try simp only); omega)
      replace ho3 := ho3.step hg3 (by (try simp only); omega)
      replace hbb1 := hbb1.step hg3 (by (try simp only); omega)
      replace ho6 := ho6.step hg3 (by (try simp only); omega)
      replace ho4 := ho4.step hg3 (by (try simp only); omega)
      replace hML := Nat.le_trans hML (hg3).size
      replace hR1 := Step.transNew hR1 hg3 (fun i hi hG => by (try simp only at hG); (first | show _ ∨ _ | show _ = _); omega)
      refine VL_store (b := b4) (o := 0) (vs := [.slice A2 ((48 * k) + 48) c2]) (by kernel_rfl) (by kernel_rfl) ho4 (Nat.le_of_ble_eq_true (by kernel_rfl)) ?_
      intro w19 hw5
      replace hS := Step.transNew hS hw5.step (fun _ _ _ => by omega)
      replace hA := hA.step hw5.step (fun k hk (hF : k = b4) => by omega)
      replace ho1 := ho1.step hw5.step (show ¬ b1 = b4 by omega)
      replace ho2 := ho2.step hw5.step (show ¬ b2 = b4 by omega)
      replace ho3 := ho3.step hw5.step (show ¬ b3 = b4 by omega)
      replace hbb1 := hbb1.step hw5.step (show ¬ bb1 = b4 by omega)
      replace ho6 := ho6.step hw5.step (show ¬ b5 = b4 by omega)
      replace hML := Nat.le_trans hML (hw5.step).size
      replace hR1 := Step.trans hR1 (Step.mono hw5.step (by intro i hi; first | exact hi | (have hi9 : i = b4 := hi; (first | show _ ∨ _ | show _ = _); omega)))
      replace hr2 := hr2.step hw5.step (fun k hk (hF : k = b4) => by omega)
      have ho11 : Own w19 b4 #[.slice A2 ((48 * k) + 48) c2] 22 := Own.cast hw5.own (by kernel_rfl)
      have hzhw5 := hw5.same
      refine VL_end (by kernel_rfl) ?_
      refine VQ_next ?_
      refine VC_seq ?_
      refine VC_region ?_
      refine VL_load (d := 38) (t := 3) (a := ⟨b5, 0, none⟩) (v := .int .i64 ((k : Nat) : Int)) (by kernel_rfl) (by kernel_rfl) (Loads.own1 ho6 (by kernel_rfl) (by rfl)) ?_
      refine VL_pure 2 [3, 6, 39] [(3, .pointer (some ⟨b2, 0, none⟩)), (6, .pointer (some ⟨b5, 0, none⟩)), (39, .int .i64 (IntKind.wrap .i64 (((k : Nat) : Int) + 1)))] (by kernel_rfl) rfl ?_
      have he6 : IntKind.wrap .i64 (((k : Nat) : Int) + 1) = ((k + 1 : Nat) : Int) := (by rw [wrap_i64 _ (by omega) (by omega)]; omega)
      refine VL_eq [(3, .pointer (some ⟨b2, 0, none⟩)), (6, .pointer (some ⟨b5, 0, none⟩)), (39, .int .i64 ((k + 1 : Nat) : Int))] (by rw [he6]) ?_
      refine VL_store (b := b5) (o := 0) (vs := [.int .i64 ((k + 1 : Nat) : Int)]) (by kernel_rfl) (by kernel_rfl) ho6 (Nat.le_of_ble_eq_true (by kernel_rfl)) ?_
      intro w20 hw6
      replace hS := Step.transNew hS hw6.step (fun _ _ _ => by omega)
      replace hA := hA.step hw6.step (fun k hk (hF : k = b5) => by omega)
      replace ho1 := ho1.step hw6.step (show ¬ b1 = b5 by omega)
      replace ho2 := ho2.step hw6.step (show ¬ b2 = b5 by omega)
      replace ho3 := ho3.step hw6.step (show ¬ b3 = b5 by omega)
      replace hbb1 := hbb1.step hw6.step (show ¬ bb1 = b5 by omega)
      replace hML := Nat.le_trans hML (hw6.step).size
      replace hR1 := Step.trans hR1 (Step.mono hw6.step (by intro i hi; first | exact hi | (have hi9 : i = b5 := hi; (first | show _ ∨ _ | show _ = _); omega)))
      replace hr2 := hr2.step hw6.step (fun k hk (hF : k = b5) => by omega)
      replace ho11 := ho11.step hw6.step (show ¬ b4 = b5 by omega)
      have ho12 : Own w20 b5 #[.int .i64 ((k + 1 : Nat) : Int)] 3 := Own.cast hw6.own (by kernel_rfl)
      have hzhw6 := hw6.same
      refine VL_end (by kernel_rfl) ?_
      refine VQ_next ?_
      refine VC_seq ?_
      refine VC_region ?_
      refine VL_load (d := 40) (t := 3) (a := ⟨b5, 0, none⟩) (v := .int .i64 ((k + 1 : Nat) : Int)) (by kernel_rfl) (by kernel_rfl) (Loads.own1 ho12 (by kernel_rfl) (by rfl)) ?_
      refine VL_load (d := 41) (t := 5) (a := ⟨b2, 0, none⟩) (v := .int .u8 ((p : Nat) : Int)) (by kernel_rfl) (by kernel_rfl) (Loads.own1 ho2 (by kernel_rfl) (by rfl)) ?_
      refine VL_pure 3 [40, 42] [(40, .int .i64 ((k + 1 : Nat) : Int)), (42, .int .i64 (IntKind.wrap .i64 ((p : Nat) : Int)))] (by kernel_rfl) rfl ?_
      have he7 : IntKind.wrap .i64 ((p : Nat) : Int) = ((p : Nat) : Int) := (by rw [wrap_i64 _ (by omega) (by omega)])
      refine VL_eq [(40, .int .i64 ((k + 1 : Nat) : Int)), (42, .int .i64 ((p : Nat) : Int))] (by rw [he7]) ?_
      refine VL_pure 4 [43] [(43, .bool (decide (((k + 1 : Nat) : Int) > ((p : Nat) : Int))))] (by kernel_rfl) rfl ?_
      refine VL_end (by kernel_rfl) ?_
      refine VQ_next ?_
      refine VC_dec (((k + 1 : Nat) : Int) > ((p : Nat) : Int)) (by kernel_rfl) (fun h2 => ?_) (fun h2 => ?_)
      · refine VC_exit ?_
        refine VQ_block_miss (by kernel_rfl) ?_
        have hzs22 := hS.size
        have hzl70 := ho1.lt
        have hzl71 := ho2.lt
        have hzl72 := ho3.lt
        have hzl73 := hbb1.lt
        have hzk8 := hML
        have hzs23 := hR1.size
        have hzl74 := ho11.lt
        have hzl75 := ho12.lt
        exact VQ_round_exit hR1 ⟨M, k + 1, rfl, by omega, _, _, hMm, (by omega), (by omega), hS, hA, ho1, ho2, ho3, hbb1, (Own.cast ho12 (by first | rfl | (simp only [Int.natCast_add]; rfl))), (Own.cast ho11 (by rw [Nat.mul_add])), (Rw.cast hr2 (by omega) (congrArg (iL .u8) (by rw [show 48 * (k + 1) = 48 * k + 48 by omega, List.take_add])))⟩
      · refine VC_skip ?_
        refine VQ_block_normal ?_
        have hzs24 := hS.size
        have hzl76 := ho1.lt
        have hzl77 := ho2.lt
        have hzl78 := ho3.lt
        have hzl79 := hbb1.lt
        have hzk9 := hML
        have hzs25 := hR1.size
        have hzl80 := ho11.lt
        have hzl81 := ho12.lt
        exact VQ_round_end hR1 ⟨_, _, hMm, (by omega), (by omega), hS, hA, ho1, ho2, ho3, hbb1, (Own.cast ho12 (by first | rfl | (simp only [Int.natCast_add]; rfl))), (Own.cast ho11 (by rw [Nat.mul_add])), (Rw.cast hr2 (by omega) (congrArg (iL .u8) (by rw [show 48 * (k + 1) = 48 * k + 48 by omega, List.take_add])))⟩
  · intro M w21 hM hzM hJ0 hD
    rw [cellsV_len, hn] at hJ0
    obtain ⟨Ad, cd, hMm, hkp, hk48, hS, hA, ho1, ho2, ho3, hbb1, ho6, ho4, hRw⟩ := hJ0
    obtain ⟨K, hK⟩ : ∃ K, K = n / 48 := ⟨_, rfl⟩
    rw [← hK] at hkp hk48 ho6 ho4 hRw
    have hKm : K = min (n / 48) (p + 1) := by omega
    have hVd := Rw.slI hRw
    have hCd := Rw.cap hRw
    have hLd := Rw.lenI hRw
    have hBd : w21.heap.size ≤ w21.heap.size := Nat.le_refl _
    have hmk1 := hD
    refine VQ_block_normal ?_
    refine VQ_next ?_
    refine VC_seq ?_
    have hs3 := drew_step w21
    have hs3z : w21.heap.size = w21.drew.heap.size := rfl
    refine VC_text [[], [], [1], [1, 2], [], [4], [4, 5], [1, 2, 3, 4, 5, 6], [0, 1, 2, 3, 4, 5, 6, 7], [0, 1, 2, 3, 4, 5, 6, 7, 8], [0, 1, 2, 3, 4, 5, 6, 7, 8, 9], [0, 1, 2, 3, 4, 5, 6, 7, 8, 9], [0, 1, 2, 3, 4, 5, 6, 7, 8, 9], [0, 1, 2, 3, 4, 5, 6, 7, 8, 9, 12], [0, 1, 2, 3, 4, 5, 6, 7, 8, 9, 11, 12, 13], [0, 1, 2, 3, 4, 5, 6, 7, 8, 9, 10, 11, 12, 13, 14], [0, 1, 2, 3, 4, 5, 6, 7, 8, 9, 10, 11, 12, 13, 14, 15], [0, 1, 2, 3, 4, 5, 6, 7, 8, 9, 10, 11, 12, 13, 14, 15, 16]] 15 (fun x y => Step (fun k => w21.heap.size ≤ k) x y) [] [0, 1, 2, 3, 4, 5, 6, 7, 8, 9, 10, 11, 12, 13, 14] (by kernel_rfl) (by kernel_rfl) (by kernel_rfl) (by kernel_rfl) (fun x => Step.refl _ x) (fun h k => Step.trans h k) Step.weak ?_
    have hzs26 := hS.size
    have hzl82 := ho1.lt
    have hzl83 := ho2.lt
    have hzl84 := ho3.lt
    have hzl85 := hbb1.lt
    have hzl86 := ho6.lt
    have hzl87 := ho4.lt
    have hzl88 := hmk1.lt
    generalize w21.drew = w22 at hs3 hs3z ⊢
    replace hS := Step.trans hS hs3
    replace hA := hA.no hs3
    replace ho1 := ho1.no hs3
    replace ho2 := ho2.no hs3
    replace ho3 := ho3.no hs3
    replace hbb1 := hbb1.no hs3
    replace ho6 := ho6.no hs3
    replace ho4 := ho4.no hs3
    replace hVd := hVd.no hs3
    replace hBd := Nat.le_trans hBd (hs3).size
    replace hmk1 := hmk1.no hs3
    refine VT_load (d := 44) (t := 3) (a := ⟨b5, 0, none⟩) (v := .int .i64 ((K : Nat) : Int)) (by kernel_rfl) (by kernel_rfl) ?_ ?_
    · intro w23 hr3
      replace hS := Step.transNew hS hr3 (fun i hi hG => by (try simp only at hG); omega)
      replace hA := hA.step hr3 (fun k hk hG => by (try simp only at hG); omega)
      replace ho1 := ho1.step hr3 (by (try simp only); omega)
      replace ho2 := ho2.step hr3 (by (try simp only); omega)
      replace ho3 := ho3.step hr3 (by (try simp only); omega)
      replace hbb1 := hbb1.step hr3 (by (try simp only); omega)
      replace ho6 := ho6.step hr3 (by (try simp only); omega)
      replace ho4 := ho4.step hr3 (by (try simp only); omega)
      replace hVd := hVd.step hr3 (fun k hk hG => by (try simp only at hG); omega)
      replace hBd := Nat.le_trans hBd (hr3).size
      replace hmk1 := hmk1.step hr3 (by (try simp only); omega)
      exact (Loads.own1 ho6 (by kernel_rfl) (by rfl))
    refine VT_load (d := 45) (t := 22) (a := ⟨b1, 0, none⟩) (v := .slice A n c) (by kernel_rfl) (by kernel_rfl) ?_ ?_
    · intro w24 hr4
      replace hS := Step.transNew hS hr4 (fun i hi hG => by (try simp only at hG); omega)
      replace hA := hA.step hr4 (fun k hk hG => by (try simp only at hG); omega)
      replace ho1 := ho1.step hr4 (by (try simp only); omega)
      replace ho2 := ho2.step hr4 (by (try simp only); omega)
      replace ho3 := ho3.step hr4 (by (try simp only); omega)
      replace hbb1 := hbb1.step hr4 (by (try simp only); omega)
      replace ho6 := ho6.step hr4 (by (try simp only); omega)
      replace ho4 := ho4.step hr4 (by (try simp only); omega)
      replace hVd := hVd.step hr4 (fun k hk hG => by (try simp only at hG); omega)
      replace hBd := Nat.le_trans hBd (hr4).size
      replace hmk1 := hmk1.step hr4 (by (try simp only); omega)
      exact (Loads.own1 ho1 (by kernel_rfl) (by rfl))
    refine VT_pures 2 (kn' := [(3, .int .i64 (IntKind.wrap .i64 (((n : Nat) : Int).tdiv 48))), (2, .int .i64 ((n : Nat) : Int)), (1, .slice A n c), (0, .int .i64 ((K : Nat) : Int))]) (by kernel_rfl) ?_
    refine VT_load (d := 48) (t := 5) (a := ⟨b2, 0, none⟩) (v := .int .u8 ((p : Nat) : Int)) (by kernel_rfl) (by kernel_rfl) ?_ ?_
    · intro w25 hr5
      replace hS := Step.transNew hS hr5 (fun i hi hG => by (try simp only at hG); omega)
      replace hA := hA.step hr5 (fun k hk hG => by (try simp only at hG); omega)
      replace ho1 := ho1.step hr5 (by (try simp only); omega)
      replace ho2 := ho2.step hr5 (by (try simp only); omega)
      replace ho3 := ho3.step hr5 (by (try simp only); omega)
      replace hbb1 := hbb1.step hr5 (by (try simp only); omega)
      replace ho6 := ho6.step hr5 (by (try simp only); omega)
      replace ho4 := ho4.step hr5 (by (try simp only); omega)
      replace hVd := hVd.step hr5 (fun k hk hG => by (try simp only at hG); omega)
      replace hBd := Nat.le_trans hBd (hr5).size
      replace hmk1 := hmk1.step hr5 (by (try simp only); omega)
      exact (Loads.own1 ho2 (by kernel_rfl) (by rfl))
    refine VT_pures 5 (kn' := [(9, .bool (((K : Nat) : Int) == (imin (IntKind.wrap .i64 (((n : Nat) : Int).tdiv 48)) (IntKind.wrap .i64 ((IntKind.wrap .i64 ((p : Nat) : Int)) + 1))))), (8, .bool (((K : Nat) : Int) == (imin (IntKind.wrap .i64 (((n : Nat) : Int).tdiv 48)) (IntKind.wrap .i64 ((IntKind.wrap .i64 ((p : Nat) : Int)) + 1))))), (7, .int .i64 (imin (IntKind.wrap .i64 (((n : Nat) : Int).tdiv 48)) (IntKind.wrap .i64 ((IntKind.wrap .i64 ((p : Nat) : Int)) + 1)))), (6, .int .i64 (IntKind.wrap .i64 ((IntKind.wrap .i64 ((p : Nat) : Int)) + 1))), (5, .int .i64 (IntKind.wrap .i64 ((p : Nat) : Int))), (4, .int .u8 ((p : Nat) : Int)), (3, .int .i64 (IntKind.wrap .i64 (((n : Nat) : Int).tdiv 48))), (2, .int .i64 ((n : Nat) : Int)), (1, .slice A n c), (0, .int .i64 ((K : Nat) : Int))]) (by kernel_rfl) ?_
    have hg4 : (((K : Nat) : Int) == (imin (IntKind.wrap .i64 (((n : Nat) : Int).tdiv 48)) (IntKind.wrap .i64 ((IntKind.wrap .i64 ((p : Nat) : Int)) + 1)))) = true := (min_is (by omega) hp hKm)
    refine VT_eq [(9, .bool true), (8, .bool true), (7, .int .i64 (imin (IntKind.wrap .i64 (((n : Nat) : Int).tdiv 48)) (IntKind.wrap .i64 ((IntKind.wrap .i64 ((p : Nat) : Int)) + 1)))), (6, .int .i64 (IntKind.wrap .i64 ((IntKind.wrap .i64 ((p : Nat) : Int)) + 1))), (5, .int .i64 (IntKind.wrap .i64 ((p : Nat) : Int))), (4, .int .u8 ((p : Nat) : Int)), (3, .int .i64 (IntKind.wrap .i64 (((n : Nat) : Int).tdiv 48))), (2, .int .i64 ((n : Nat) : Int)), (1, .slice A n c), (0, .int .i64 ((K : Nat) : Int))] (by simp only [hg4, Bool.not_true, Bool.not_false]) ?_
    refine VT_load (d := 54) (t := 22) (a := ⟨b4, 0, none⟩) (v := .slice Ad (48 * K) cd) (by kernel_rfl) (by kernel_rfl) ?_ ?_
    · intro w26 hr6
      replace hS := Step.transNew hS hr6 (fun i hi hG => by (try simp only at hG); omega)
      replace hA := hA.step hr6 (fun k hk hG => by (try simp only at hG); omega)
      replace ho1 := ho1.step hr6 (by (try simp only); omega)
      replace ho2 := ho2.step hr6 (by (try simp only); omega)
      replace ho3 := ho3.step hr6 (by (try simp only); omega)
      replace hbb1 := hbb1.step hr6 (by (try simp only); omega)
      replace ho6 := ho6.step hr6 (by (try simp only); omega)
      replace ho4 := ho4.step hr6 (by (try simp only); omega)
      replace hVd := hVd.step hr6 (fun k hk hG => by (try simp only at hG); omega)
      replace hBd := Nat.le_trans hBd (hr6).size
      replace hmk1 := hmk1.step hr6 (by (try simp only); omega)
      exact (Loads.own1 ho4 (by kernel_rfl) (by rfl))
    refine VT_load (d := 55) (t := 22) (a := ⟨b1, 0, none⟩) (v := .slice A n c) (by kernel_rfl) (by kernel_rfl) ?_ ?_
    · intro w27 hr7
      replace hS := Step.transNew hS hr7 (fun i hi hG => by (try simp only at hG); omega)
      replace hA := hA.step hr7 (fun k hk hG => by (try simp only at hG); omega)
      replace ho1 := ho1.step hr7 (by (try simp only); omega)
      replace ho2 := ho2.step hr7 (by (try simp only); omega)
      replace ho3 := ho3.step hr7 (by (try simp only); omega)
      replace hbb1 := hbb1.step hr7 (by (try simp only); omega)
      replace ho6 := ho6.step hr7 (by (try simp only); omega)
      replace ho4 := ho4.step hr7 (by (try simp only); omega)
      replace hVd := hVd.step hr7 (fun k hk hG => by (try simp only at hG); omega)
      replace hBd := Nat.le_trans hBd (hr7).size
      replace hmk1 := hmk1.step hr7 (by (try simp only); omega)
      exact (Loads.own1 ho1 (by kernel_rfl) (by rfl))
    refine VT_load (d := 56) (t := 3) (a := ⟨b5, 0, none⟩) (v := .int .i64 ((K : Nat) : Int)) (by kernel_rfl) (by kernel_rfl) ?_ ?_
    · intro w28 hr8
      replace hS := Step.transNew hS hr8 (fun i hi hG => by (try simp only at hG); omega)
      replace hA := hA.step hr8 (fun k hk hG => by (try simp only at hG); omega)
      replace ho1 := ho1.step hr8 (by (try simp only); omega)
      replace ho2 := ho2.step hr8 (by (try simp only); omega)
      replace ho3 := ho3.step hr8 (by (try simp only); omega)
      replace hbb1 := hbb1.step hr8 (by (try simp only); omega)
      replace ho6 := ho6.step hr8 (by (try simp only); omega)
      replace ho4 := ho4.step hr8 (by (try simp only); omega)
      replace hVd := hVd.step hr8 (fun k hk hG => by (try simp only at hG); omega)
      replace hBd := Nat.le_trans hBd (hr8).size
      replace hmk1 := hmk1.step hr8 (by (try simp only); omega)
      exact (Loads.own1 ho6 (by kernel_rfl) (by rfl))
    refine VT_pures 1 (kn' := [(13, .int .i64 (IntKind.wrap .i64 (48 * ((K : Nat) : Int)))), (12, .int .i64 ((K : Nat) : Int)), (11, .slice A n c), (10, .slice Ad (48 * K) cd), (9, .bool true), (8, .bool true), (7, .int .i64 (imin (IntKind.wrap .i64 (((n : Nat) : Int).tdiv 48)) (IntKind.wrap .i64 ((IntKind.wrap .i64 ((p : Nat) : Int)) + 1)))), (6, .int .i64 (IntKind.wrap .i64 ((IntKind.wrap .i64 ((p : Nat) : Int)) + 1))), (5, .int .i64 (IntKind.wrap .i64 ((p : Nat) : Int))), (4, .int .u8 ((p : Nat) : Int)), (3, .int .i64 (IntKind.wrap .i64 (((n : Nat) : Int).tdiv 48))), (2, .int .i64 ((n : Nat) : Int)), (1, .slice A n c), (0, .int .i64 ((K : Nat) : Int))]) (by kernel_rfl) ?_
    refine VT_sliceV (d := 58) (A := A) (sz := 1) (len := n) (cap := c) (lo := none) (hi := (some (IntKind.wrap .i64 (48 * ((K : Nat) : Int))))) (mx := none) (by kernel_rfl) (by kernel_rfl) (fun h => by first | exact absurd rfl h | exact (fun h => by cases h)) hA 0 (48 * K) c rfl (show IntKind.wrap .i64 (48 * ((K : Nat) : Int)) = ((48 * K : Nat) : Int) from (by rw [wrap_i64 _ (by omega) (by omega)]; omega)) rfl (by omega) (by omega) (by omega) (48 * K) (by omega) c (by omega) _ (iL_takeV bs (48 * K)) ?_
    intro A3 hsl1
    refine VT_end ?_
    intro w29 hs4
    replace hS := Step.trans hS hs4
    replace hA := hA.no hs4
    replace ho1 := ho1.no hs4
    replace ho2 := ho2.no hs4
    replace ho3 := ho3.no hs4
    replace hbb1 := hbb1.no hs4
    replace ho6 := ho6.no hs4
    replace ho4 := ho4.no hs4
    replace hVd := hVd.no hs4
    replace hBd := Nat.le_trans hBd (hs4).size
    replace hmk1 := hmk1.no hs4
    replace hsl1 := hsl1.no hs4
    refine VL_keep [4, 53, 54, 58] [(4, .pointer (some ⟨b3, 0, none⟩)), (53, .bool true), (54, .slice Ad (48 * K) cd), (58, .slice A3 (48 * K) c)] (by kernel_rfl) ?_
    have hzs27 := hS.size
    have hzl89 := ho1.lt
    have hzl90 := ho2.lt
    have hzl91 := ho3.lt
    have hzl92 := hbb1.lt
    have hzl93 := ho6.lt
    have hzl94 := ho4.lt
    have hzl95 := hmk1.lt
    refine VL_call (d := 59) (f := 14) (args := #[.slice Ad (48 * K) cd, .slice A3 (48 * K) c]) (by kernel_rfl) (by kernel_rfl) (by kernel_rfl) Try.call14 (same_any Ad (48 * K) cd _ (bs.take (48 * K)) A3 (48 * K) c _ (bs.take (48 * K)) _ hLd hVd (by simp only [List.length_take, List.length_drop]; have hq9 : bs.length = n := hn; omega) hsl1 (by omega) (by omega) (by first | exact Nat.le_refl _ | omega) (by first | exact Nat.le_refl _ | omega)) ?_
    rintro _ w30 ⟨rfl, hc3⟩
    replace hS := Step.trans hS hc3
    replace hA := hA.no hc3
    replace ho1 := ho1.no hc3
    replace ho2 := ho2.no hc3
    replace ho3 := ho3.no hc3
    replace hbb1 := hbb1.no hc3
    replace ho6 := ho6.no hc3
    replace ho4 := ho4.no hc3
    replace hVd := hVd.no hc3
    replace hBd := Nat.le_trans hBd (hc3).size
    replace hmk1 := hmk1.no hc3
    replace hsl1 := hsl1.no hc3
    refine VL_pure 17 [4, 60] [(4, .pointer (some ⟨b3, 0, none⟩)), (60, .bool ((bs.take (48 * K)) == (bs.take (48 * K))))] (by kernel_rfl) rfl ?_
    refine VL_store (b := b3) (o := 0) (vs := [.bool ((bs.take (48 * K)) == (bs.take (48 * K)))]) (by kernel_rfl) (by kernel_rfl) ho3 (Nat.le_of_ble_eq_true (by kernel_rfl)) ?_
    intro w31 hw7
    replace hS := Step.transNew hS hw7.step (fun _ _ _ => by omega)
    replace hA := hA.step hw7.step (fun k hk (hF : k = b3) => by omega)
    replace ho1 := ho1.step hw7.step (show ¬ b1 = b3 by omega)
    replace ho2 := ho2.step hw7.step (show ¬ b2 = b3 by omega)
    replace hbb1 := hbb1.step hw7.step (show ¬ bb1 = b3 by omega)
    replace ho6 := ho6.step hw7.step (show ¬ b5 = b3 by omega)
    replace ho4 := ho4.step hw7.step (show ¬ b4 = b3 by omega)
    replace hBd := Nat.le_trans hBd (hw7.step).size
    replace hmk1 := hmk1.step hw7.step (show ¬ w8.heap.size = b3 by omega)
    have ho13 : Own w31 b3 #[.bool ((bs.take (48 * K)) == (bs.take (48 * K)))] 4 := Own.cast hw7.own (by kernel_rfl)
    have hzhw7 := hw7.same
    refine VL_end (by kernel_rfl) ?_
    refine VQ_next ?_
    refine VC_ret ?_
    have hzs28 := hS.size
    have hzl96 := ho1.lt
    have hzl97 := ho2.lt
    have hzl98 := hbb1.lt
    have hzl99 := ho6.lt
    have hzl100 := ho4.lt
    have hzk10 := hBd
    have hzl101 := hmk1.lt
    have hzl102 := ho13.lt
    have hzr := ho13.lt
    refine VQ_retMC1 (.bool ((bs.take (48 * K)) == (bs.take (48 * K)))) [w8.heap.size] (.inr rfl) rfl rfl ⟨hmk1, (by simp), trivial⟩ (fun w9 hq9 => Loads.own1 (ho13.step hq9 (by simp; try omega)) (by kernel_rfl) rfl) ?_
    intro w32 hq1
    replace hq1 : Step (Just w8.heap.size) w31 w32 := Step.mono hq1 (fun i hi => by simpa using hi)
    replace hS := Step.transNew hS hq1 (fun _ _ _ => by omega)
    replace hA := hA.step hq1 (fun k hk (hF : k = w8.heap.size) => by omega)
    replace ho1 := ho1.step hq1 (show ¬ b1 = w8.heap.size by omega)
    replace ho2 := ho2.step hq1 (show ¬ b2 = w8.heap.size by omega)
    replace hbb1 := hbb1.step hq1 (show ¬ bb1 = w8.heap.size by omega)
    replace ho6 := ho6.step hq1 (show ¬ b5 = w8.heap.size by omega)
    replace ho4 := ho4.step hq1 (show ¬ b4 = w8.heap.size by omega)
    replace hBd := Nat.le_trans hBd (hq1).size
    replace ho13 := ho13.step hq1 (show ¬ b3 = w8.heap.size by omega)
    exact ⟨by first | rfl | simp [*], hS⟩
  · rintro e w33 hzM ⟨M, K, rfl, hKp, Ad, cd, hMm, hkp, hk48, hS, hA, ho1, ho2, ho3, hbb1, ho6, ho4, hRw⟩ hD
    have hKm : K = min (n / 48) (p + 1) := by omega
    have hVd := Rw.slI hRw
    have hCd := Rw.cap hRw
    have hLd := Rw.lenI hRw
    have hBd : w33.heap.size ≤ w33.heap.size := Nat.le_refl _
    have hmk2 := hD
    refine VQ_block_hit ?_
    refine VQ_next ?_
    refine VC_seq ?_
    have hs5 := drew_step w33
    have hs5z : w33.heap.size = w33.drew.heap.size := rfl
    refine VC_text [[], [], [1], [1, 2], [], [4], [4, 5], [1, 2, 3, 4, 5, 6], [0, 1, 2, 3, 4, 5, 6, 7], [0, 1, 2, 3, 4, 5, 6, 7, 8], [0, 1, 2, 3, 4, 5, 6, 7, 8, 9], [0, 1, 2, 3, 4, 5, 6, 7, 8, 9], [0, 1, 2, 3, 4, 5, 6, 7, 8, 9], [0, 1, 2, 3, 4, 5, 6, 7, 8, 9, 12], [0, 1, 2, 3, 4, 5, 6, 7, 8, 9, 11, 12, 13], [0, 1, 2, 3, 4, 5, 6, 7, 8, 9, 10, 11, 12, 13, 14], [0, 1, 2, 3, 4, 5, 6, 7, 8, 9, 10, 11, 12, 13, 14, 15], [0, 1, 2, 3, 4, 5, 6, 7, 8, 9, 10, 11, 12, 13, 14, 15, 16]] 15 (fun x y => Step (fun k => w33.heap.size ≤ k) x y) [] [0, 1, 2, 3, 4, 5, 6, 7, 8, 9, 10, 11, 12, 13, 14] (by kernel_rfl) (by kernel_rfl) (by kernel_rfl) (by kernel_rfl) (fun x => Step.refl _ x) (fun h k => Step.trans h k) Step.weak ?_
    have hzs29 := hS.size
    have hzl103 := ho1.lt
    have hzl104 := ho2.lt
    have hzl105 := ho3.lt
    have hzl106 := hbb1.lt
    have hzl107 := ho6.lt
    have hzl108 := ho4.lt
    have hzl109 := hmk2.lt
    generalize w33.drew = w34 at hs5 hs5z ⊢
    replace hS := Step.trans hS hs5
    replace hA := hA.no hs5
    replace ho1 := ho1.no hs5
    replace ho2 := ho2.no hs5
    replace ho3 := ho3.no hs5
    replace hbb1 := hbb1.no hs5
    replace ho6 := ho6.no hs5
    replace ho4 := ho4.no hs5
    replace hVd := hVd.no hs5
    replace hBd := Nat.le_trans hBd (hs5).size
    replace hmk2 := hmk2.no hs5
    refine VT_load (d := 44) (t := 3) (a := ⟨b5, 0, none⟩) (v := .int .i64 ((K : Nat) : Int)) (by kernel_rfl) (by kernel_rfl) ?_ ?_
    · intro w35 hr9
      replace hS := Step.transNew hS hr9 (fun i hi hG => by (try simp only at hG); omega)
      replace hA := hA.step hr9 (fun k hk hG => by (try simp only at hG); omega)
      replace ho1 := ho1.step hr9 (by (try simp only); omega)
      replace ho2 := ho2.step hr9 (by (try simp only); omega)
      replace ho3 := ho3.step hr9 (by (try simp only); omega)
      replace hbb1 := hbb1.step hr9 (by (try simp only); omega)
      replace ho6 := ho6.step hr9 (by (try simp only); omega)
      replace ho4 := ho4.step hr9 (by (try simp only); omega)
      replace hVd := hVd.step hr9 (fun k hk hG => by (try simp only at hG); omega)
      replace hBd := Nat.le_trans hBd (hr9).size
      replace hmk2 := hmk2.step hr9 (by (try simp only); omega)
      exact (Loads.own1 ho6 (by kernel_rfl) (by rfl))
    refine VT_load (d := 45) (t := 22) (a := ⟨b1, 0, none⟩) (v := .slice A n c) (by kernel_rfl) (by kernel_rfl) ?_ ?_
    · intro w36 hr10
      replace hS := Step.transNew hS hr10 (fun i hi hG => by (try simp only at hG); omega)
      replace hA := hA.step hr10 (fun k hk hG => by (try simp only at hG); omega)
      replace ho1 := ho1.step hr10 (by (try simp only); omega)
      replace ho2 := ho2.step hr10 (by (try simp only); omega)
      replace ho3 := ho3.step hr10 (by (try simp only); omega)
      replace hbb1 := hbb1.step hr10 (by (try simp only); omega)
      replace ho6 := ho6.step hr10 (by (try simp only); omega)
      replace ho4 := ho4.step hr10 (by (try simp only); omega)
      replace hVd := hVd.step hr10 (fun k hk hG => by (try simp only at hG); omega)
      replace hBd := Nat.le_trans hBd (hr10).size
      replace hmk2 := hmk2.step hr10 (by (try simp only); omega)
      exact (Loads.own1 ho1 (by kernel_rfl) (by rfl))
    refine VT_pures 2 (kn' := [(3, .int .i64 (IntKind.wrap .i64 (((n : Nat) : Int).tdiv 48))), (2, .int .i64 ((n : Nat) : Int)), (1, .slice A n c), (0, .int .i64 ((K : Nat) : Int))]) (by kernel_rfl) ?_
    refine VT_load (d := 48) (t := 5) (a := ⟨b2, 0, none⟩) (v := .int .u8 ((p : Nat) : Int)) (by kernel_rfl) (by kernel_rfl) ?_ ?_
    · intro w37 hr11
      replace hS := Step.transNew hS hr11 (fun i hi hG => by (try simp only at hG); omega)
      replace hA := hA.step hr11 (fun k hk hG => by (try simp only at hG); omega)
      replace ho1 := ho1.step hr11 (by (try simp only); omega)
      replace ho2 := ho2.step hr11 (by (try simp only); omega)
      replace ho3 := ho3.step hr11 (by (try simp only); omega)
      replace hbb1 := hbb1.step hr11 (by (try simp only); omega)
      replace ho6 := ho6.step hr11 (by (try simp only); omega)
      replace ho4 := ho4.step hr11 (by (try simp only); omega)
      replace hVd := hVd.step hr11 (fun k hk hG => by (try simp only at hG); omega)
      replace hBd := Nat.le_trans hBd (hr11).size
      replace hmk2 := hmk2.step hr11 (by (try simp only); omega)
      exact (Loads.own1 ho2 (by kernel_rfl) (by rfl))
    refine VT_pures 5 (kn' := [(9, .bool (((K : Nat) : Int) == (imin (IntKind.wrap .i64 (((n : Nat) : Int).tdiv 48)) (IntKind.wrap .i64 ((IntKind.wrap .i64 ((p : Nat) : Int)) + 1))))), (8, .bool (((K : Nat) : Int) == (imin (IntKind.wrap .i64 (((n : Nat) : Int).tdiv 48)) (IntKind.wrap .i64 ((IntKind.wrap .i64 ((p : Nat) : Int)) + 1))))), (7, .int .i64 (imin (IntKind.wrap .i64 (((n : Nat) : Int).tdiv 48)) (IntKind.wrap .i64 ((IntKind.wrap .i64 ((p : Nat) : Int)) + 1)))), (6, .int .i64 (IntKind.wrap .i64 ((IntKind.wrap .i64 ((p : Nat) : Int)) + 1))), (5, .int .i64 (IntKind.wrap .i64 ((p : Nat) : Int))), (4, .int .u8 ((p : Nat) : Int)), (3, .int .i64 (IntKind.wrap .i64 (((n : Nat) : Int).tdiv 48))), (2, .int .i64 ((n : Nat) : Int)), (1, .slice A n c), (0, .int .i64 ((K : Nat) : Int))]) (by kernel_rfl) ?_
    have hg5 : (((K : Nat) : Int) == (imin (IntKind.wrap .i64 (((n : Nat) : Int).tdiv 48)) (IntKind.wrap .i64 ((IntKind.wrap .i64 ((p : Nat) : Int)) + 1)))) = true := (min_is (by omega) hp hKm)
    refine VT_eq [(9, .bool true), (8, .bool true), (7, .int .i64 (imin (IntKind.wrap .i64 (((n : Nat) : Int).tdiv 48)) (IntKind.wrap .i64 ((IntKind.wrap .i64 ((p : Nat) : Int)) + 1)))), (6, .int .i64 (IntKind.wrap .i64 ((IntKind.wrap .i64 ((p : Nat) : Int)) + 1))), (5, .int .i64 (IntKind.wrap .i64 ((p : Nat) : Int))), (4, .int .u8 ((p : Nat) : Int)), (3, .int .i64 (IntKind.wrap .i64 (((n : Nat) : Int).tdiv 48))), (2, .int .i64 ((n : Nat) : Int)), (1, .slice A n c), (0, .int .i64 ((K : Nat) : Int))] (by simp only [hg5, Bool.not_true, Bool.not_false]) ?_
    refine VT_load (d := 54) (t := 22) (a := ⟨b4, 0, none⟩) (v := .slice Ad (48 * K) cd) (by kernel_rfl) (by kernel_rfl) ?_ ?_
    · intro w38 hr12
      replace hS := Step.transNew hS hr12 (fun i hi hG => by (try simp only at hG); omega)
      replace hA := hA.step hr12 (fun k hk hG => by (try simp only at hG); omega)
      replace ho1 := ho1.step hr12 (by (try simp only); omega)
      replace ho2 := ho2.step hr12 (by (try simp only); omega)
      replace ho3 := ho3.step hr12 (by (try simp only); omega)
      replace hbb1 := hbb1.step hr12 (by (try simp only); omega)
      replace ho6 := ho6.step hr12 (by (try simp only); omega)
      replace ho4 := ho4.step hr12 (by (try simp only); omega)
      replace hVd := hVd.step hr12 (fun k hk hG => by (try simp only at hG); omega)
      replace hBd := Nat.le_trans hBd (hr12).size
      replace hmk2 := hmk2.step hr12 (by (try simp only); omega)
      exact (Loads.own1 ho4 (by kernel_rfl) (by rfl))
    refine VT_load (d := 55) (t := 22) (a := ⟨b1, 0, none⟩) (v := .slice A n c) (by kernel_rfl) (by kernel_rfl) ?_ ?_
    · intro w39 hr13
      replace hS := Step.transNew hS hr13 (fun i hi hG => by (try simp only at hG); omega)
      replace hA := hA.step hr13 (fun k hk hG => by (try simp only at hG); omega)
      replace ho1 := ho1.step hr13 (by (try simp only); omega)
      replace ho2 := ho2.step hr13 (by (try simp only); omega)
      replace ho3 := ho3.step hr13 (by (try simp only); omega)
      replace hbb1 := hbb1.step hr13 (by (try simp only); omega)
      replace ho6 := ho6.step hr13 (by (try simp only); omega)
      replace ho4 := ho4.step hr13 (by (try simp only); omega)
      replace hVd := hVd.step hr13 (fun k hk hG => by (try simp only at hG); omega)
      replace hBd := Nat.le_trans hBd (hr13).size
      replace hmk2 := hmk2.step hr13 (by (try simp only); omega)
      exact (Loads.own1 ho1 (by kernel_rfl) (by rfl))
    refine VT_load (d := 56) (t := 3) (a := ⟨b5, 0, none⟩) (v := .int .i64 ((K : Nat) : Int)) (by kernel_rfl) (by kernel_rfl) ?_ ?_
    · intro w40 hr14
      replace hS := Step.transNew hS hr14 (fun i hi hG => by (try simp only at hG); omega)
      replace hA := hA.step hr14 (fun k hk hG => by (try simp only at hG); omega)
      replace ho1 := ho1.step hr14 (by (try simp only); omega)
      replace ho2 := ho2.step hr14 (by (try simp only); omega)
      replace ho3 := ho3.step hr14 (by (try simp only); omega)
      replace hbb1 := hbb1.step hr14 (by (try simp only); omega)
      replace ho6 := ho6.step hr14 (by (try simp only); omega)
      replace ho4 := ho4.step hr14 (by (try simp only); omega)
      replace hVd := hVd.step hr14 (fun k hk hG => by (try simp only at hG); omega)
      replace hBd := Nat.le_trans hBd (hr14).size
      replace hmk2 := hmk2.step hr14 (by (try simp only); omega)
      exact (Loads.own1 ho6 (by kernel_rfl) (by rfl))
    refine VT_pures 1 (kn' := [(13, .int .i64 (IntKind.wrap .i64 (48 * ((K : Nat) : Int)))), (12, .int .i64 ((K : Nat) : Int)), (11, .slice A n c), (10, .slice Ad (48 * K) cd), (9, .bool true), (8, .bool true), (7, .int .i64 (imin (IntKind.wrap .i64 (((n : Nat) : Int).tdiv 48)) (IntKind.wrap .i64 ((IntKind.wrap .i64 ((p : Nat) : Int)) + 1)))), (6, .int .i64 (IntKind.wrap .i64 ((IntKind.wrap .i64 ((p : Nat) : Int)) + 1))), (5, .int .i64 (IntKind.wrap .i64 ((p : Nat) : Int))), (4, .int .u8 ((p : Nat) : Int)), (3, .int .i64 (IntKind.wrap .i64 (((n : Nat) : Int).tdiv 48))), (2, .int .i64 ((n : Nat) : Int)), (1, .slice A n c), (0, .int .i64 ((K : Nat) : Int))]) (by kernel_rfl) ?_
    refine VT_sliceV (d := 58) (A := A) (sz := 1) (len := n) (cap := c) (lo := none) (hi := (some (IntKind.wrap .i64 (48 * ((K : Nat) : Int))))) (mx := none) (by kernel_rfl) (by kernel_rfl) (fun h => by first | exact absurd rfl h | exact (fun h => by cases h)) hA 0 (48 * K) c rfl (show IntKind.wrap .i64 (48 * ((K : Nat) : Int)) = ((48 * K : Nat) : Int) from (by rw [wrap_i64 _ (by omega) (by omega)]; omega)) rfl (by omega) (by omega) (by omega) (48 * K) (by omega) c (by omega) _ (iL_takeV bs (48 * K)) ?_
    intro A4 hsl2
    refine VT_end ?_
    intro w41 hs6
    replace hS := Step.trans hS hs6
    replace hA := hA.no hs6
    replace ho1 := ho1.no hs6
    replace ho2 := ho2.no hs6
    replace ho3 := ho3.no hs6
    replace hbb1 := hbb1.no hs6
    replace ho6 := ho6.no hs6
    replace ho4 := ho4.no hs6
    replace hVd := hVd.no hs6
    replace hBd := Nat.le_trans hBd (hs6).size
    replace hmk2 := hmk2.no hs6
    replace hsl2 := hsl2.no hs6
    refine VL_keep [4, 53, 54, 58] [(4, .pointer (some ⟨b3, 0, none⟩)), (53, .bool true), (54, .slice Ad (48 * K) cd), (58, .slice A4 (48 * K) c)] (by kernel_rfl) ?_
    have hzs30 := hS.size
    have hzl110 := ho1.lt
    have hzl111 := ho2.lt
    have hzl112 := ho3.lt
    have hzl113 := hbb1.lt
    have hzl114 := ho6.lt
    have hzl115 := ho4.lt
    have hzl116 := hmk2.lt
    refine VL_call (d := 59) (f := 14) (args := #[.slice Ad (48 * K) cd, .slice A4 (48 * K) c]) (by kernel_rfl) (by kernel_rfl) (by kernel_rfl) Try.call14 (same_any Ad (48 * K) cd _ (bs.take (48 * K)) A4 (48 * K) c _ (bs.take (48 * K)) _ hLd hVd (by simp only [List.length_take, List.length_drop]; have hq9 : bs.length = n := hn; omega) hsl2 (by omega) (by omega) (by first | exact Nat.le_refl _ | omega) (by first | exact Nat.le_refl _ | omega)) ?_
    rintro _ w42 ⟨rfl, hc4⟩
    replace hS := Step.trans hS hc4
    replace hA := hA.no hc4
    replace ho1 := ho1.no hc4
    replace ho2 := ho2.no hc4
    replace ho3 := ho3.no hc4
    replace hbb1 := hbb1.no hc4
    replace ho6 := ho6.no hc4
    replace ho4 := ho4.no hc4
    replace hVd := hVd.no hc4
    replace hBd := Nat.le_trans hBd (hc4).size
    replace hmk2 := hmk2.no hc4
    replace hsl2 := hsl2.no hc4
    refine VL_pure 17 [4, 60] [(4, .pointer (some ⟨b3, 0, none⟩)), (60, .bool ((bs.take (48 * K)) == (bs.take (48 * K))))] (by kernel_rfl) rfl ?_
    refine VL_store (b := b3) (o := 0) (vs := [.bool ((bs.take (48 * K)) == (bs.take (48 * K)))]) (by kernel_rfl) (by kernel_rfl) ho3 (Nat.le_of_ble_eq_true (by kernel_rfl)) ?_
    intro w43 hw8
    replace hS := Step.transNew hS hw8.step (fun _ _ _ => by omega)
    replace hA := hA.step hw8.step (fun k hk (hF : k = b3) => by omega)
    replace ho1 := ho1.step hw8.step (show ¬ b1 = b3 by omega)
    replace ho2 := ho2.step hw8.step (show ¬ b2 = b3 by omega)
    replace hbb1 := hbb1.step hw8.step (show ¬ bb1 = b3 by omega)
    replace ho6 := ho6.step hw8.step (show ¬ b5 = b3 by omega)
    replace ho4 := ho4.step hw8.step (show ¬ b4 = b3 by omega)
    replace hBd := Nat.le_trans hBd (hw8.step).size
    replace hmk2 := hmk2.step hw8.step (show ¬ w8.heap.size = b3 by omega)
    replace hsl2 := hsl2.step hw8.step (fun k hk (hF : k = b3) => by omega)
    have ho14 : Own w43 b3 #[.bool ((bs.take (48 * K)) == (bs.take (48 * K)))] 4 := Own.cast hw8.own (by kernel_rfl)
    have hzhw8 := hw8.same
    refine VL_end (by kernel_rfl) ?_
    refine VQ_next ?_
    refine VC_ret ?_
    have hzs31 := hS.size
    have hzl117 := ho1.lt
    have hzl118 := ho2.lt
    have hzl119 := hbb1.lt
    have hzl120 := ho6.lt
    have hzl121 := ho4.lt
    have hzk11 := hBd
    have hzl122 := hmk2.lt
    have hzl123 := ho14.lt
    have hzr := ho14.lt
    refine VQ_retMC1 (.bool ((bs.take (48 * K)) == (bs.take (48 * K)))) [w8.heap.size] (.inr rfl) rfl rfl ⟨hmk2, (by simp), trivial⟩ (fun w9 hq9 => Loads.own1 (ho14.step hq9 (by simp; try omega)) (by kernel_rfl) rfl) ?_
    intro w44 hq2
    replace hq2 : Step (Just w8.heap.size) w43 w44 := Step.mono hq2 (fun i hi => by simpa using hi)
    replace hS := Step.transNew hS hq2 (fun _ _ _ => by omega)
    replace hA := hA.step hq2 (fun k hk (hF : k = w8.heap.size) => by omega)
    replace ho1 := ho1.step hq2 (show ¬ b1 = w8.heap.size by omega)
    replace ho2 := ho2.step hq2 (show ¬ b2 = w8.heap.size by omega)
    replace hbb1 := hbb1.step hq2 (show ¬ bb1 = w8.heap.size by omega)
    replace ho6 := ho6.step hq2 (show ¬ b5 = w8.heap.size by omega)
    replace ho4 := ho4.step hq2 (show ¬ b4 = w8.heap.size by omega)
    replace hBd := Nat.le_trans hBd (hq2).size
    replace hsl2 := hsl2.step hq2 (fun k hk (hF : k = w8.heap.size) => by omega)
    replace ho14 := ho14.step hq2 (show ¬ b3 = w8.heap.size by omega)
    exact ⟨by first | rfl | simp [*], hS⟩

set_option maxRecDepth 100000 in
set_option maxHeartbeats 4000000 in
theorem cells_o (A : Option Addr) (n c : Nat) (bs : List Int) (p : Nat) (w : World) (hn : bs.length = n) (hA : Sl w w.heap.size A (iL .u8 bs)) (hc : n ≤ c) (hb : Bytes bs) (hp : p < 256) (hlon : 401 ≤ n) :
    CV Try.prog 8 #[.slice A n c, .int .u8 ((p : Nat) : Int)] w (fun x w1 => x = .bool true ∧ Step No w w1) := by
  have hS : Step No w w := Step.refl _ _
  refine CV_enterM Try.f8 _ 61 [(0, .slice A n c), (1, .int .u8 ((p : Nat) : Int))] Try.func8 rfl rfl (by kernel_rfl) rfl ?_
  refine VC_seq ?_
  refine VC_region ?_
  have hzs1 := hS.size
  refine VL_box (d := 2) (t := 22) (c := #[.slice A n c]) (by kernel_rfl) (by kernel_rfl) ?_
  intro b1 w1 hn1
  replace hS := Step.trans hS (hn1.step No)
  replace hA := hA.no (hn1.step No)
  have ho1 := hn1.own
  have hzhn1 := hn1.size
  have hqhn1 := hn1.eqb
  have hzs2 := hS.size
  have hzl1 := ho1.lt
  refine VL_box (d := 3) (t := 5) (c := #[.int .u8 ((p : Nat) : Int)]) (by kernel_rfl) (by kernel_rfl) ?_
  intro b2 w2 hn2
  replace hS := Step.trans hS (hn2.step No)
  replace hA := hA.no (hn2.step No)
  replace ho1 := ho1.no (hn2.step No)
  have ho2 := hn2.own
  have hzhn2 := hn2.size
  have hqhn2 := hn2.eqb
  have hzs3 := hS.size
  have hzl2 := ho1.lt
  have hzl3 := ho2.lt
  refine VL_box (d := 4) (t := 4) (c := #[.bool false]) (by kernel_rfl) (by kernel_rfl) ?_
  intro b3 w3 hn3
  replace hS := Step.trans hS (hn3.step No)
  replace hA := hA.no (hn3.step No)
  replace ho1 := ho1.no (hn3.step No)
  replace ho2 := ho2.no (hn3.step No)
  have ho3 := hn3.own
  have hzhn3 := hn3.size
  have hqhn3 := hn3.eqb
  refine VL_end (by kernel_rfl) ?_
  refine VQ_next ?_
  refine VC_seq ?_
  refine VC_seq ?_
  refine VC_region ?_
  have hzs4 := hS.size
  have hzl4 := ho1.lt
  have hzl5 := ho2.lt
  have hzl6 := ho3.lt
  refine VL_call (d := 9) (f := 9) (args := #[]) (by kernel_rfl) (by kernel_rfl) (by kernel_rfl) Try.call9 (awake_any _) ?_
  rintro _ w4 ⟨rfl, hc1⟩
  replace hS := Step.trans hS hc1
  replace hA := hA.no hc1
  replace ho1 := ho1.no hc1
  replace ho2 := ho2.no hc1
  replace ho3 := ho3.no hc1
  refine VL_pure 3 [2, 3, 4, 11] [(2, .pointer (some ⟨b1, 0, none⟩)), (3, .pointer (some ⟨b2, 0, none⟩)), (4, .pointer (some ⟨b3, 0, none⟩)), (11, .bool false)] (by kernel_rfl) rfl ?_
  refine VL_load (d := 12) (t := 22) (a := ⟨b1, 0, none⟩) (v := .slice A n c) (by kernel_rfl) (by kernel_rfl) (Loads.own1 ho1 (by kernel_rfl) (by rfl)) ?_
  refine VL_pure 7 [2, 3, 4, 15] [(2, .pointer (some ⟨b1, 0, none⟩)), (3, .pointer (some ⟨b2, 0, none⟩)), (4, .pointer (some ⟨b3, 0, none⟩)), (15, .bool (decide (((n : Nat) : Int) > 400)))] (by kernel_rfl) rfl ?_
  refine VL_end (by kernel_rfl) ?_
  refine VQ_next ?_
  refine VC_is (b := decide (((n : Nat) : Int) > 400)) true (by kernel_rfl) (by first | (simp; omega) | (simp; done) | simp [*]) ?_
  refine VC_ite_true ?_
  refine VC_seq ?_
  refine VC_region ?_
  have hzs5 := hS.size
  have hzl7 := ho1.lt
  have hzl8 := ho2.lt
  have hzl9 := ho3.lt
  refine VL_call (d := 16) (f := 9) (args := #[]) (by kernel_rfl) (by kernel_rfl) (by kernel_rfl) Try.call9 (awake_any _) ?_
  rintro _ w5 ⟨rfl, hc2⟩
  replace hS := Step.trans hS hc2
  replace hA := hA.no hc2
  replace ho1 := ho1.no hc2
  replace ho2 := ho2.no hc2
  replace ho3 := ho3.no hc2
  refine VL_store (b := b3) (o := 0) (vs := [.bool true]) (by kernel_rfl) (by kernel_rfl) ho3 (Nat.le_of_ble_eq_true (by kernel_rfl)) ?_
  intro w6 hw1
  replace hS := Step.transNew hS hw1.step (fun _ _ _ => by omega)
  replace hA := hA.step hw1.step (fun k hk (hF : k = b3) => by omega)
  replace ho1 := ho1.step hw1.step (show ¬ b1 = b3 by omega)
  replace ho2 := ho2.step hw1.step (show ¬ b2 = b3 by omega)
  have ho4 : Own w6 b3 #[.bool true] 4 := Own.cast hw1.own (by kernel_rfl)
  have hzhw1 := hw1.same
  refine VL_end (by kernel_rfl) ?_
  refine VQ_next ?_
  refine VC_ret ?_
  refine VQ_then_ret ?_
  have hzs6 := hS.size
  have hzl10 := ho1.lt
  have hzl11 := ho2.lt
  have hzl12 := ho4.lt
  have hzr := ho4.lt
  refine VQ_retMC1 (.bool true) [] (.inr rfl) rfl rfl trivial (fun w9 hq9 => Loads.own1 (ho4.step hq9 (by simp; try omega)) (by kernel_rfl) rfl) ?_
  intro w7 hq1
  replace hq1 : Step No w6 w7 := Step.mono hq1 (fun i hi => by simp at hi)
  replace hS := Step.trans hS hq1
  replace hA := hA.no hq1
  replace ho1 := ho1.no hq1
  replace ho2 := ho2.no hq1
  replace ho4 := ho4.no hq1
  exact ⟨by first | rfl | simp [*], hS⟩

end Go.Proofs.Ytfgmlgkopphekaa
