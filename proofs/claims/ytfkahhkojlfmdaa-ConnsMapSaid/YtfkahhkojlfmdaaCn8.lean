/- Layer 9: Drop. -/
import Derived.Test.YtfkahhkojlfmdaaProg
import Derived.Test.YtfkahhkojlfmdaaCn7
set_option linter.unusedVariables false
set_option linter.unusedSimpArgs false
namespace Go.Proofs.Ytfkahhkojlfmdaa
open Go.Vc Go.RowKit

theorem there_of {s : Nat → Slot} {len room : Int} {L : List Ent} (h : TabI s len room L) {p v c n : Int} (hl : lookE L p v c = some n) : (s (findN s p v c)).used = true := by
  have h9 : val s p v c = some n := by rw [h.val]; exact hl
  have h8 : there s p v c = true := by rw [val_there, h9]; rfl
  exact h8
set_option maxRecDepth 100000 in
set_option maxHeartbeats 4000000 in
theorem drop_any (b : Nat) (s : Nat → Slot) (len room : Int) (L : List Ent) (p v c : Int) (w : World) (ht : Own w b (encT s len room) 62) (hT : TabI s len room L) :
    CV Try.prog 16 #[.pointer (some ⟨b, 0, none⟩), .agg #[.int .i64 p, .int .i64 v, .int .i64 c]] w (fun x w1 => ∃ s', x = .tuple #[.int .i64 ((lookE L p v c).getD 0), .bool (lookE L p v c).isSome] ∧ Own w1 b (encT s' ((delE L p v c).length : Int) room) 62 ∧ TabI s' ((delE L p v c).length : Int) room (delE L p v c) ∧ Step (Just b) w w1) := by
  have hS : Step (Just b) w w := Step.refl _ _
  obtain ⟨e, he, hu⟩ := hT.inv.unused
  have hfi := findN_lt s p v c
  have hl0 := hT.len
  have hl1 := hT.inv.fits
  have hl2 := hT.inv.cap
  have hbl := ht.lt
  refine CV_enter Try.f16 _ 69 [(0, .pointer (some ⟨b, 0, none⟩)), (1, .agg #[.int .i64 p, .int .i64 v, .int .i64 c])] Try.func16 rfl rfl (by kernel_rfl) rfl ?_
  refine VC_seq ?_
  refine VC_region ?_
  have hzs1 := hS.size
  have hzl1 := ht.lt
  refine VL_box (d := 3) (t := 29) (c := #[.int .i64 p, .int .i64 v, .int .i64 c]) (by kernel_rfl) (by kernel_rfl) ?_
  intro b1 w1 hn1
  replace hS := Step.trans hS (Step.weak (hn1.step No))
  replace ht := ht.no (hn1.step No)
  have ho1 := hn1.own
  have hzhn1 := hn1.size
  have hqhn1 := hn1.eqb
  refine VL_pure 3 [0, 3] [(0, .pointer (some ⟨b, 0, none⟩)), (3, .pointer (some ⟨b1, 0, none⟩))] (by kernel_rfl) rfl ?_
  refine VL_end (by kernel_rfl) ?_
  refine VQ_next ?_
  refine VC_seq ?_
  refine VC_region ?_
  refine VL_pure 1 [0, 3, 11] [(0, .pointer (some ⟨b, 0, none⟩)), (3, .pointer (some ⟨b1, 0, none⟩)), (11, .pointer (some ⟨b, 0, none⟩))] (by kernel_rfl) rfl ?_
  refine VL_load (d := 12) (t := 29) (a := ⟨b1, 0, none⟩) (v := .agg #[.int .i64 p, .int .i64 v, .int .i64 c]) (by kernel_rfl) (by kernel_rfl) (Loads.ownL ho1 (n := 3) (by kernel_rfl) (by kernel_rfl) (by kernel_rfl)) ?_
  have hzs2 := hS.size
  have hzl2 := ht.lt
  have hzl3 := ho1.lt
  refine VL_call (d := 13) (f := 14) (args := #[.pointer (some ⟨b, 0, none⟩), .agg #[.int .i64 p, .int .i64 v, .int .i64 c]]) (by kernel_rfl) (by kernel_rfl) (by kernel_rfl) Try.call14 (get_tabL p v c ht hT) ?_
  rintro _ w2 ⟨rfl, hc1⟩
  replace hS := Step.trans hS (Step.weak hc1)
  replace ht := ht.no hc1
  replace ho1 := ho1.no hc1
  refine VL_pure 8 [0, 3, 6, 7] [(0, .pointer (some ⟨b, 0, none⟩)), (3, .pointer (some ⟨b1, 0, none⟩)), (6, .int .i64 ((lookE L p v c).getD 0)), (7, .bool ((lookE L p v c).isSome))] (by kernel_rfl) rfl ?_
  refine VL_end (by kernel_rfl) ?_
  refine VQ_next ?_
  refine VC_seq ?_
  refine VC_seq ?_
  refine VC_region ?_
  refine VL_pure 2 [0, 3, 6, 17] [(0, .pointer (some ⟨b, 0, none⟩)), (3, .pointer (some ⟨b1, 0, none⟩)), (6, .int .i64 ((lookE L p v c).getD 0)), (17, .bool (!((lookE L p v c).isSome)))] (by kernel_rfl) rfl ?_
  refine VL_end (by kernel_rfl) ?_
  refine VQ_next ?_
  refine VC_cond (!((lookE L p v c).isSome)) (by kernel_rfl) (fun h1 => ?_) (fun h1 => ?_)
  · try simp only [Bool.and_eq_true, Bool.or_eq_true, decide_eq_true_eq, Bool.not_eq_true', decide_eq_false_iff_not, Bool.and_eq_false_iff, Bool.or_eq_false_iff, beq_iff_eq, bne_iff_ne, beq_eq_false_iff_ne, bne_eq_false_iff_eq, Bool.not_eq_eq_eq_not, Bool.not_true, Bool.not_false] at h1
    refine VC_seq ?_
    refine VC_region ?_
    refine VL_pure 2 [4, 5] [(4, .int .i64 0), (5, .bool false)] (by kernel_rfl) rfl ?_
    refine VL_end (by kernel_rfl) ?_
    refine VQ_next ?_
    refine VC_ret ?_
    refine VQ_then_ret ?_
    refine VQ_ret2 (.int .i64 0) (.bool false) (.inr rfl) rfl rfl rfl ?_
    exact ⟨s, by rw [show lookE L p v c = none by simpa using h1]; rfl, Own.cast ht (by rw [delE_none (by simpa using h1), ← hT.len]), by rw [delE_none (by simpa using h1), ← hT.len]; exact hT, hS⟩
  · try simp only [Bool.and_eq_true, Bool.or_eq_true, decide_eq_true_eq, Bool.not_eq_true', decide_eq_false_iff_not, Bool.and_eq_false_iff, Bool.or_eq_false_iff, beq_iff_eq, bne_iff_ne, beq_eq_false_iff_ne, bne_eq_false_iff_eq, Bool.not_eq_eq_eq_not, Bool.not_true, Bool.not_false] at h1
    refine VC_skip ?_
    refine VQ_next ?_
    refine VC_seq ?_
    obtain ⟨nn, hnn⟩ : ∃ n, lookE L p v c = some n := Option.isSome_iff_exists.1 (by simpa using h1)
    have hfu : (s (findN s p v c)).used = true := there_of hT hnn
    obtain ⟨hd0, hk0, hk1⟩ := hT.dropI he hu hfi hfu
    refine VC_region ?_
    refine VL_pure 1 [0, 3, 6, 18] [(0, .pointer (some ⟨b, 0, none⟩)), (3, .pointer (some ⟨b1, 0, none⟩)), (6, .int .i64 ((lookE L p v c).getD 0)), (18, .pointer (some ⟨b, 0, none⟩))] (by kernel_rfl) rfl ?_
    refine VL_load (d := 19) (t := 29) (a := ⟨b1, 0, none⟩) (v := .agg #[.int .i64 p, .int .i64 v, .int .i64 c]) (by kernel_rfl) (by kernel_rfl) (Loads.ownL ho1 (n := 3) (by kernel_rfl) (by kernel_rfl) (by kernel_rfl)) ?_
    have hzs3 := hS.size
    have hzl4 := ht.lt
    have hzl5 := ho1.lt
    refine VL_call (d := 20) (f := 27) (by kernel_rfl) (by kernel_rfl) (by kernel_rfl) Try.call27 (find_at p v c ht he hu) ?_
    rintro _ w3 ⟨rfl, hc2⟩
    replace hS := Step.trans hS (Step.weak hc2)
    replace ht := ht.no hc2
    replace ho1 := ho1.no hc2
    refine VL_pure 4 [0, 6, 8] [(0, .pointer (some ⟨b, 0, none⟩)), (6, .int .i64 ((lookE L p v c).getD 0)), (8, .int .i64 ((findN s p v c : Nat) : Int))] (by kernel_rfl) rfl ?_
    refine VL_end (by kernel_rfl) ?_
    refine VQ_next ?_
    refine VC_seq ?_
    refine VC_region ?_
    refine VL_pure 5 [0, 6, 8, 22, 23, 25] [(0, .pointer (some ⟨b, 0, none⟩)), (6, .int .i64 ((lookE L p v c).getD 0)), (8, .int .i64 ((findN s p v c : Nat) : Int)), (22, .int .i64 ((findN s p v c : Nat) : Int)), (23, .agg #[.int .i64 0, .int .i64 0, .int .i64 0, .int .i64 0, .bool false]), (25, .pointer (some ⟨b, 0, none⟩))] (by kernel_rfl) rfl ?_
    refine VL_index (d := 26) (b := b) (o := 0) (len := 128) (sz := 5) (m := ((findN s p v c : Nat) : Int)) (by kernel_rfl) (by kernel_rfl) (findN s p v c) (by rfl) (by first | exact hfi | exact hat | exact findN_lt _ _ _ _ | omega) ((findN s p v c) * 5) (by omega) ?_
    refine VL_store (b := b) (o := (findN s p v c) * 5) (vs := [.int .i64 0, .int .i64 0, .int .i64 0, .int .i64 0, .bool false]) (by kernel_rfl) (by kernel_rfl) ht (by rw [encT_size]; show _ + 5 ≤ _; omega) ?_
    intro w4 hw1
    replace hS := Step.trans hS (Step.mono hw1.step (by intro i hi; first | exact hi | (have hi9 : i = b := hi; (first | show _ ∨ _ | show _ = _); omega)))
    replace ho1 := ho1.step hw1.step (show ¬ b1 = b by omega)
    have ho2 : Own w4 b (encT (setS s (findN s p v c) ⟨0, 0, 0, 0, false⟩) len room) 62 := Own.cast hw1.own (setRow_slot s len room (findN s p v c) (by first | exact hfi | exact hat | exact findN_lt _ _ _ _ | omega) ⟨0, 0, 0, 0, false⟩)
    have hzhw1 := hw1.same
    refine VL_end (by kernel_rfl) ?_
    refine VQ_next ?_
    refine VC_seq ?_
    refine VC_region ?_
    refine VL_pure 3 [0, 6, 8, 27, 29] [(0, .pointer (some ⟨b, 0, none⟩)), (6, .int .i64 ((lookE L p v c).getD 0)), (8, .int .i64 ((findN s p v c : Nat) : Int)), (27, .pointer (some ⟨b, 0, none⟩)), (29, .pointer (some ⟨b, 640, none⟩))] (by kernel_rfl) rfl ?_
    refine VL_load (d := 30) (t := 3) (a := ⟨b, 640, none⟩) (v := .int .i64 len) (by kernel_rfl) (by kernel_rfl) (Loads.own1 ho2 (by kernel_rfl) (encT_len (setS s (findN s p v c) ⟨0, 0, 0, 0, false⟩) len room)) ?_
    refine VL_pure 7 [0, 6, 8, 31, 33] [(0, .pointer (some ⟨b, 0, none⟩)), (6, .int .i64 ((lookE L p v c).getD 0)), (8, .int .i64 ((findN s p v c : Nat) : Int)), (31, .int .i64 (IntKind.wrap .i64 (len - 1))), (33, .pointer (some ⟨b, 640, none⟩))] (by kernel_rfl) rfl ?_
    refine VL_keep [0, 6, 8, 31, 33] [(0, .pointer (some ⟨b, 0, none⟩)), (6, .int .i64 ((lookE L p v c).getD 0)), (8, .int .i64 ((findN s p v c : Nat) : Int)), (31, .int .i64 (IntKind.wrap .i64 (len - 1))), (33, .pointer (some ⟨b, 640, none⟩))] (by kernel_rfl) ?_
    refine VL_eq [(0, .pointer (some ⟨b, 0, none⟩)), (6, .int .i64 ((lookE L p v c).getD 0)), (8, .int .i64 ((findN s p v c : Nat) : Int)), (31, .int .i64 (len - 1)), (33, .pointer (some ⟨b, 640, none⟩))] (by rw [wrap_i64 (len - 1) (by omega) (by omega)]) ?_
    refine VL_store (b := b) (o := 640) (vs := [.int .i64 (len - 1)]) (by kernel_rfl) (by kernel_rfl) ho2 (by rw [encT_size]; exact Nat.le_of_ble_eq_true (by kernel_rfl)) ?_
    intro w5 hw2
    replace hS := Step.trans hS (Step.mono hw2.step (by intro i hi; first | exact hi | (have hi9 : i = b := hi; (first | show _ ∨ _ | show _ = _); omega)))
    replace ho1 := ho1.step hw2.step (show ¬ b1 = b by omega)
    have ho3 : Own w5 b (encT (setS s (findN s p v c) ⟨0, 0, 0, 0, false⟩) (len - 1) room) 62 := Own.cast hw2.own (setRow_len _ _ _ _)
    have hzhw2 := hw2.same
    refine VL_end (by kernel_rfl) ?_
    refine VQ_next ?_
    refine VC_seq ?_
    refine VC_seq ?_
    refine VC_region ?_
    refine VL_pure 3 [0, 6, 36] [(0, .pointer (some ⟨b, 0, none⟩)), (6, .int .i64 ((lookE L p v c).getD 0)), (36, .int .i64 ((IntKind.wrap .i64 (((findN s p v c : Nat) : Int) + 1)).tmod 128))] (by kernel_rfl) rfl ?_
    refine VL_keep [0, 6, 36] [(0, .pointer (some ⟨b, 0, none⟩)), (6, .int .i64 ((lookE L p v c).getD 0)), (36, .int .i64 ((IntKind.wrap .i64 (((findN s p v c : Nat) : Int) + 1)).tmod 128))] (by kernel_rfl) ?_
    refine VL_eq [(0, .pointer (some ⟨b, 0, none⟩)), (6, .int .i64 ((lookE L p v c).getD 0)), (36, .int .i64 ((atE e (offE e (findN s p v c) + 1) : Nat) : Int))] (by rw [wrap_i64 _ (by omega) (by omega), ← hk1]; exact congrArg _ (by rw [Int.tmod_eq_emod_of_nonneg (by omega)]; rfl)) ?_
    refine VL_pure 4 [0, 6, 8] [(0, .pointer (some ⟨b, 0, none⟩)), (6, .int .i64 ((lookE L p v c).getD 0)), (8, .int .i64 ((atE e (offE e (findN s p v c) + 1) : Nat) : Int))] (by kernel_rfl) rfl ?_
    refine VL_end (by kernel_rfl) ?_
    refine VQ_next ?_
    refine VC_block ?_
    refine VC_loop (σ := Nat × (Nat → Slot)) (fun σs => [(0, .pointer (some ⟨b, 0, none⟩)), (6, .int .i64 ((lookE L p v c).getD 0)), (8, .int .i64 ((atE e σs.1 : Nat) : Int))]) (fun σs wr => σs.1 ≤ 128 ∧ DropI σs.2 e σs.1 ∧ (∀ x, HasS σs.2 x ↔ HasS (setS s (findN s p v c) noSlot) x) ∧ Step (Just b) w wr ∧ Own wr b (encT σs.2 (len - 1) room) 62) (fun σs wr => 128 - σs.1) ⟨(offE e (findN s p v c) + 1), (setS s (findN s p v c) noSlot)⟩ ⟨rfl, rfl, rfl, trivial⟩ ?_ ?_
    · exact ⟨by omega, hd0, fun _ => Iff.rfl, hS, ho3⟩
    rintro ⟨k, s1⟩ wr ⟨hk, hd, hm, hS, ht⟩
    try dsimp only at hk hd hm hS ht ⊢
    have hat := atE_lt e k
    refine VC_seq ?_
    refine VC_seq ?_
    refine VC_region ?_
    refine VL_pure 4 [0, 6, 8, 38, 40] [(0, .pointer (some ⟨b, 0, none⟩)), (6, .int .i64 ((lookE L p v c).getD 0)), (8, .int .i64 ((atE e k : Nat) : Int)), (38, .int .i64 ((atE e k : Nat) : Int)), (40, .pointer (some ⟨b, 0, none⟩))] (by kernel_rfl) rfl ?_
    refine VL_index (d := 41) (b := b) (o := 0) (len := 128) (sz := 5) (m := ((atE e k : Nat) : Int)) (by kernel_rfl) (by kernel_rfl) (atE e k) (by rfl) (by first | exact hfi | exact hat | exact findN_lt _ _ _ _ | omega) ((atE e k) * 5) (by omega) ?_
    refine VL_pure 6 [0, 6, 8, 42] [(0, .pointer (some ⟨b, 0, none⟩)), (6, .int .i64 ((lookE L p v c).getD 0)), (8, .int .i64 ((atE e k : Nat) : Int)), (42, .pointer (some ⟨b, (atE e k) * 5 + 4, none⟩))] (by kernel_rfl) rfl ?_
    refine VL_load (d := 43) (t := 4) (a := ⟨b, (atE e k) * 5 + 4, none⟩) (v := .bool ((s1 (atE e k)).used)) (by kernel_rfl) (by kernel_rfl) (Loads.own1 ht (by kernel_rfl) (encT_used s1 (len - 1) room (atE e k) (by first | exact hfi | exact hat | exact findN_lt _ _ _ _ | omega))) ?_
    refine VL_end (by kernel_rfl) ?_
    refine VQ_next ?_
    refine VC_cond ((s1 (atE e k)).used) (by kernel_rfl) (fun h2 => ?_) (fun h2 => ?_)
    · try simp only [Bool.and_eq_true, Bool.or_eq_true, decide_eq_true_eq, Bool.not_eq_true', decide_eq_false_iff_not, Bool.and_eq_false_iff, Bool.or_eq_false_iff, beq_iff_eq, bne_iff_ne, beq_eq_false_iff_ne, bne_eq_false_iff_eq, Bool.not_eq_eq_eq_not, Bool.not_true, Bool.not_false] at h2
      refine VC_skip ?_
      refine VQ_next ?_
      refine VC_seq ?_
      refine VC_block ?_
      refine VC_seq ?_
      have hk2 := hd.lt he hk h2
      obtain ⟨f9, hf1, hf2, hf3, hnx, hmx⟩ := hd.next he hk2 h2
      subst hf2
      have hf8 := findN_lt (setS s1 (atE e k) ⟨0, 0, 0, 0, false⟩) (s1 (atE e k)).p (s1 (atE e k)).v (s1 (atE e k)).c
      refine VC_region ?_
      refine VL_pure 4 [0, 6, 8, 48, 50] [(0, .pointer (some ⟨b, 0, none⟩)), (6, .int .i64 ((lookE L p v c).getD 0)), (8, .int .i64 ((atE e k : Nat) : Int)), (48, .int .i64 ((atE e k : Nat) : Int)), (50, .pointer (some ⟨b, 0, none⟩))] (by kernel_rfl) rfl ?_
      refine VL_index (d := 51) (b := b) (o := 0) (len := 128) (sz := 5) (m := ((atE e k : Nat) : Int)) (by kernel_rfl) (by kernel_rfl) (atE e k) (by rfl) (by first | exact hfi | exact hat | exact findN_lt _ _ _ _ | omega) ((atE e k) * 5) (by omega) ?_
      refine VL_load (d := 52) (t := 59) (a := ⟨b, (atE e k) * 5, none⟩) (v := .agg #[.int .i64 ((s1 (atE e k)).p), .int .i64 ((s1 (atE e k)).v), .int .i64 ((s1 (atE e k)).c), .int .i64 ((s1 (atE e k)).n), .bool ((s1 (atE e k)).used)]) (by kernel_rfl) (by kernel_rfl) (Loads.own ht (n := 5) (by kernel_rfl) (by rw [encT_size]; omega) (encT_all s1 (len - 1) room (atE e k) (by first | exact hfi | exact hat | exact findN_lt _ _ _ _ | omega))) ?_
      have hzs4 := hS.size
      have hzl6 := ht.lt
      refine VL_box (d := 9) (t := 59) (c := #[.int .i64 0, .int .i64 0, .int .i64 0, .int .i64 0, .bool false]) (by kernel_rfl) (by kernel_rfl) ?_
      intro b2 w6 hn2
      replace hS := Step.trans hS (Step.weak (hn2.step No))
      replace ht := ht.no (hn2.step No)
      have ho4 := hn2.own
      have hzhn2 := hn2.size
      have hqhn2 := hn2.eqb
      refine VL_store (b := b2) (o := 0) (vs := [.int .i64 ((s1 (atE e k)).p), .int .i64 ((s1 (atE e k)).v), .int .i64 ((s1 (atE e k)).c), .int .i64 ((s1 (atE e k)).n), .bool ((s1 (atE e k)).used)]) (by kernel_rfl) (by kernel_rfl) ho4 (Nat.le_of_ble_eq_true (by kernel_rfl)) ?_
      intro w7 hw3
      replace hS := Step.transNew hS hw3.step (fun _ _ _ => by omega)
      replace ht := ht.step hw3.step (show ¬ b = b2 by omega)
      have ho5 : Own w7 b2 #[.int .i64 ((s1 (atE e k)).p), .int .i64 ((s1 (atE e k)).v), .int .i64 ((s1 (atE e k)).c), .int .i64 ((s1 (atE e k)).n), .bool ((s1 (atE e k)).used)] 59 := Own.cast hw3.own (by kernel_rfl)
      have hzhw3 := hw3.same
      refine VL_end (by kernel_rfl) ?_
      refine VQ_next ?_
      refine VC_seq ?_
      refine VC_region ?_
      refine VL_pure 5 [0, 6, 8, 9, 54, 55, 57] [(0, .pointer (some ⟨b, 0, none⟩)), (6, .int .i64 ((lookE L p v c).getD 0)), (8, .int .i64 ((atE e k : Nat) : Int)), (9, .pointer (some ⟨b2, 0, none⟩)), (54, .int .i64 ((atE e k : Nat) : Int)), (55, .agg #[.int .i64 0, .int .i64 0, .int .i64 0, .int .i64 0, .bool false]), (57, .pointer (some ⟨b, 0, none⟩))] (by kernel_rfl) rfl ?_
      refine VL_index (d := 58) (b := b) (o := 0) (len := 128) (sz := 5) (m := ((atE e k : Nat) : Int)) (by kernel_rfl) (by kernel_rfl) (atE e k) (by rfl) (by first | exact hfi | exact hat | exact findN_lt _ _ _ _ | omega) ((atE e k) * 5) (by omega) ?_
      refine VL_store (b := b) (o := (atE e k) * 5) (vs := [.int .i64 0, .int .i64 0, .int .i64 0, .int .i64 0, .bool false]) (by kernel_rfl) (by kernel_rfl) ht (by rw [encT_size]; show _ + 5 ≤ _; omega) ?_
      intro w8 hw4
      replace hS := Step.trans hS (Step.mono hw4.step (by intro i hi; first | exact hi | (have hi9 : i = b := hi; (first | show _ ∨ _ | show _ = _); omega)))
      replace ho5 := ho5.step hw4.step (show ¬ b2 = b by omega)
      have ho6 : Own w8 b (encT (setS s1 (atE e k) ⟨0, 0, 0, 0, false⟩) (len - 1) room) 62 := Own.cast hw4.own (setRow_slot s1 (len - 1) room (atE e k) (by first | exact hfi | exact hat | exact findN_lt _ _ _ _ | omega) ⟨0, 0, 0, 0, false⟩)
      have hzhw4 := hw4.same
      refine VL_end (by kernel_rfl) ?_
      refine VQ_next ?_
      refine VC_det [[], [], [], [2], [1, 2, 3], [], [0], [0, 6], [0, 1, 2, 3, 4, 5, 6, 7], [0, 1, 2, 3, 4, 5, 6, 7, 8]] 8 [.pointer (some ⟨b, 0, none⟩), .pointer (some ⟨b, 0, none⟩), .pointer (some ⟨b2, 0, none⟩), .agg #[.int .i64 ((s1 (atE e k)).p), .int .i64 ((s1 (atE e k)).v), .int .i64 ((s1 (atE e k)).c)], .int .i64 ((findN (setS s1 (atE e k) ⟨0, 0, 0, 0, false⟩) ((s1 (atE e k)).p) ((s1 (atE e k)).v) ((s1 (atE e k)).c) : Nat) : Int), .agg #[.int .i64 ((s1 (atE e k)).p), .int .i64 ((s1 (atE e k)).v), .int .i64 ((s1 (atE e k)).c), .int .i64 ((s1 (atE e k)).n), .bool ((s1 (atE e k)).used)], .pointer (some ⟨b, 0, none⟩), .pointer (some ⟨b, 0, none⟩)] [0, 1, 2, 6, 7] [3, 4, 5] (by kernel_rfl) (by kernel_rfl) (by kernel_rfl) (by kernel_rfl) ?_ ?_
      · intro w9 hs1
        replace hS := Step.trans hS (Step.weak hs1)
        replace ho5 := ho5.no hs1
        replace ho6 := ho6.no hs1
        exact ⟨Det1_load (d := 62) (t := 29) (a := ⟨b2, 0, none⟩) (by kernel_rfl) (by kernel_rfl) (Loads.ownL ho5 (n := 3) (by kernel_rfl) (by kernel_rfl) (by kernel_rfl)), Det1_call (d := 63) (f := 27) (args := #[.pointer (some ⟨b, 0, none⟩), .agg #[.int .i64 ((s1 (atE e k)).p), .int .i64 ((s1 (atE e k)).v), .int .i64 ((s1 (atE e k)).c)]]) (by kernel_rfl) (by kernel_rfl) (by kernel_rfl) Try.call27 (by exact find_at (s := setS s1 (atE e k) ⟨0, 0, 0, 0, false⟩) ((s1 (atE e k)).p) ((s1 (atE e k)).v) ((s1 (atE e k)).c) ho6 (atE_lt e k) (by rw [setS_eq])), Det1_load (d := 64) (t := 59) (a := ⟨b2, 0, none⟩) (by kernel_rfl) (by kernel_rfl) (Loads.ownL ho5 (n := 5) (by kernel_rfl) (by kernel_rfl) (by kernel_rfl)), trivial⟩
      intro w9 hs1
      replace hS := Step.trans hS (Step.weak hs1)
      replace ho5 := ho5.no hs1
      replace ho6 := ho6.no hs1
      refine VL_keep [0, 6, 8, 63, 64, 66] [(0, .pointer (some ⟨b, 0, none⟩)), (6, .int .i64 ((lookE L p v c).getD 0)), (8, .int .i64 ((atE e k : Nat) : Int)), (63, .int .i64 ((findN (setS s1 (atE e k) ⟨0, 0, 0, 0, false⟩) ((s1 (atE e k)).p) ((s1 (atE e k)).v) ((s1 (atE e k)).c) : Nat) : Int)), (64, .agg #[.int .i64 ((s1 (atE e k)).p), .int .i64 ((s1 (atE e k)).v), .int .i64 ((s1 (atE e k)).c), .int .i64 ((s1 (atE e k)).n), .bool ((s1 (atE e k)).used)]), (66, .pointer (some ⟨b, 0, none⟩))] (by kernel_rfl) ?_
      refine VL_index (d := 67) (b := b) (o := 0) (len := 128) (sz := 5) (m := ((findN (setS s1 (atE e k) ⟨0, 0, 0, 0, false⟩) ((s1 (atE e k)).p) ((s1 (atE e k)).v) ((s1 (atE e k)).c) : Nat) : Int)) (by kernel_rfl) (by kernel_rfl) (findN (setS s1 (atE e k) ⟨0, 0, 0, 0, false⟩) ((s1 (atE e k)).p) ((s1 (atE e k)).v) ((s1 (atE e k)).c)) (by rfl) (by first | exact hfi | exact hat | exact findN_lt _ _ _ _ | omega) ((findN (setS s1 (atE e k) ⟨0, 0, 0, 0, false⟩) ((s1 (atE e k)).p) ((s1 (atE e k)).v) ((s1 (atE e k)).c)) * 5) (by omega) ?_
      refine VL_store (b := b) (o := (findN (setS s1 (atE e k) ⟨0, 0, 0, 0, false⟩) ((s1 (atE e k)).p) ((s1 (atE e k)).v) ((s1 (atE e k)).c)) * 5) (vs := [.int .i64 ((s1 (atE e k)).p), .int .i64 ((s1 (atE e k)).v), .int .i64 ((s1 (atE e k)).c), .int .i64 ((s1 (atE e k)).n), .bool ((s1 (atE e k)).used)]) (by kernel_rfl) (by kernel_rfl) ho6 (by rw [encT_size]; show _ + 5 ≤ _; omega) ?_
      intro w10 hw5
      replace hS := Step.trans hS (Step.mono hw5.step (by intro i hi; first | exact hi | (have hi9 : i = b := hi; (first | show _ ∨ _ | show _ = _); omega)))
      replace ho5 := ho5.step hw5.step (show ¬ b2 = b by omega)
      have ho7 : Own w10 b (encT (setS (setS s1 (atE e k) ⟨0, 0, 0, 0, false⟩) (findN (setS s1 (atE e k) ⟨0, 0, 0, 0, false⟩) ((s1 (atE e k)).p) ((s1 (atE e k)).v) ((s1 (atE e k)).c)) ⟨(s1 (atE e k)).p, (s1 (atE e k)).v, (s1 (atE e k)).c, (s1 (atE e k)).n, (s1 (atE e k)).used⟩) (len - 1) room) 62 := Own.cast hw5.own (setRow_slot (setS s1 (atE e k) ⟨0, 0, 0, 0, false⟩) (len - 1) room (findN (setS s1 (atE e k) ⟨0, 0, 0, 0, false⟩) ((s1 (atE e k)).p) ((s1 (atE e k)).v) ((s1 (atE e k)).c)) (by first | exact hfi | exact hat | exact findN_lt _ _ _ _ | omega) ⟨(s1 (atE e k)).p, (s1 (atE e k)).v, (s1 (atE e k)).c, (s1 (atE e k)).n, (s1 (atE e k)).used⟩)
      have hzhw5 := hw5.same
      refine VL_end (by kernel_rfl) ?_
      refine VQ_block_normal ?_
      refine VQ_next ?_
      refine VC_region ?_
      refine VL_pure 3 [0, 6, 46] [(0, .pointer (some ⟨b, 0, none⟩)), (6, .int .i64 ((lookE L p v c).getD 0)), (46, .int .i64 ((IntKind.wrap .i64 (((atE e k : Nat) : Int) + 1)).tmod 128))] (by kernel_rfl) rfl ?_
      refine VL_keep [0, 6, 46] [(0, .pointer (some ⟨b, 0, none⟩)), (6, .int .i64 ((lookE L p v c).getD 0)), (46, .int .i64 ((IntKind.wrap .i64 (((atE e k : Nat) : Int) + 1)).tmod 128))] (by kernel_rfl) ?_
      refine VL_eq [(0, .pointer (some ⟨b, 0, none⟩)), (6, .int .i64 ((lookE L p v c).getD 0)), (46, .int .i64 ((atE e (k + 1) : Nat) : Int))] (by rw [wrap_i64 _ (by omega) (by omega), ← atE_succ he]; exact congrArg _ (by rw [Int.tmod_eq_emod_of_nonneg (by omega)]; rfl)) ?_
      refine VL_pure 4 [0, 6, 8] [(0, .pointer (some ⟨b, 0, none⟩)), (6, .int .i64 ((lookE L p v c).getD 0)), (8, .int .i64 ((atE e (k + 1) : Nat) : Int))] (by kernel_rfl) rfl ?_
      refine VL_end (by kernel_rfl) ?_
      refine VQ_again ⟨k + 1, setS (setS s1 (atE e k) noSlot) (findN (setS s1 (atE e k) noSlot) (s1 (atE e k)).p (s1 (atE e k)).v (s1 (atE e k)).c) (s1 (atE e k))⟩ ⟨rfl, rfl, rfl, trivial⟩ ?_ ?_
      · exact ⟨by omega, hnx, fun x => (hmx x).trans (hm x), hS, ho7⟩
      · show 128 - (k + 1) < 128 - k; omega
    · try simp only [Bool.and_eq_true, Bool.or_eq_true, decide_eq_true_eq, Bool.not_eq_true', decide_eq_false_iff_not, Bool.and_eq_false_iff, Bool.or_eq_false_iff, beq_iff_eq, bne_iff_ne, beq_eq_false_iff_ne, bne_eq_false_iff_eq, Bool.not_eq_eq_eq_not, Bool.not_true, Bool.not_false] at h2
      refine VC_exit ?_
      refine VQ_then_exit ?_
      refine VQ_then_exit ?_
      refine VQ_block_hit ?_
      refine VQ_next ?_
      refine VC_seq ?_
      have htab := hT.drop hnn he hd (by rcases Nat.lt_or_eq_of_le hk with h9 | h9; exact .inl ⟨h9, by simpa using h2⟩; exact .inr h9) hm
      have hlen9 := htab.len
      refine VC_region ?_
      refine VL_pure 3 [4, 5] [(4, .int .i64 ((lookE L p v c).getD 0)), (5, .bool true)] (by kernel_rfl) rfl ?_
      refine VL_end (by kernel_rfl) ?_
      refine VQ_next ?_
      refine VC_ret ?_
      refine VQ_ret2 (.int .i64 ((lookE L p v c).getD 0)) (.bool true) (.inr rfl) rfl rfl rfl ?_
      exact ⟨s1, by rw [hnn]; rfl, Own.cast ht (by rw [show len - 1 = ((delE L p v c).length : Int) from hlen9]), by rw [← hlen9]; exact htab, hS⟩

end Go.Proofs.Ytfkahhkojlfmdaa
