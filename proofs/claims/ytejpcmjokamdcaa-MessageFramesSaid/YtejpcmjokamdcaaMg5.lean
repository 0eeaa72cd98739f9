import Derived.Test.YtejpcmjokamdcaaProg
import Derived.Test.YtejpcmjokamdcaaMg4
section
/- Layer 1, the document's: a bit turned over. -/
set_option linter.unusedVariables false
set_option linter.unusedSimpArgs false
namespace Go.Proofs.Ytejpcmjokamdcaa
open Go.Vc
def flipL (bs : List Int) (t : Nat) : List Int := bs.set (t / 8) (bXor .u8 (bs.getD (t / 8) 0) ((128 : Int).fdiv (2 ^ (t % 8))))
theorem flipL_len (bs : List Int) (t : Nat) : (flipL bs t).length = bs.length := by simp [flipL]
end Go.Proofs.Ytejpcmjokamdcaa
end

section
/- Layer 10 in plain Lean: bits turned one after the other; frames with more ahead or behind. -/
set_option linter.unusedVariables false
set_option linter.unusedSimpArgs false
namespace Go.Proofs.Ytejpcmjokamdcaa
open Go.Vc
theorem getD_setI (xs : List Int) (j m : Nat) (v : Int) : (xs.set j v).getD m 0 = if m = j ∧ j < xs.length then v else xs.getD m 0 := by
  simp only [List.getD, List.getElem?_set]
  by_cases h : j = m
  · subst h
    by_cases hj : j < xs.length
    · simp [hj]
    · simp [hj]
  · simp [h, Ne.symm h]
theorem flip_fin : ∀ (a : Fin 256) (i : Fin 8), bits8 (bXor .u8 ((a.val : Nat) : Int) ((128 : Int).fdiv (2 ^ i.val))) = (bits8 ((a.val : Nat) : Int)).set i.val (!(bits8 ((a.val : Nat) : Int)).getD i.val false) ∧ 0 ≤ bXor .u8 ((a.val : Nat) : Int) ((128 : Int).fdiv (2 ^ i.val)) ∧ bXor .u8 ((a.val : Nat) : Int) ((128 : Int).fdiv (2 ^ i.val)) < 256 := by decide +kernel
theorem flip_bytes {bs : List Int} (hb : Bytes bs) (t : Nat) : Bytes (flipL bs t) := by
  intro x hx
  rcases List.mem_or_eq_of_mem_set hx with hx | rfl
  · exact hb x hx
  · obtain ⟨a, ha⟩ := byte_nat (hb.get (t / 8))
    rw [ha]
    have := flip_fin a ⟨t % 8, Nat.mod_lt _ (by decide)⟩
    exact ⟨this.2.1, this.2.2⟩
theorem flip_get {bs : List Int} (t j : Nat) (hj : j ≠ t / 8) : (flipL bs t).getD j 0 = bs.getD j 0 := by
  unfold flipL
  rw [getD_setI, if_neg (fun e => hj e.1)]
theorem flip_at {bs : List Int} (t : Nat) (ht : t < 8 * bs.length) : (flipL bs t).getD (t / 8) 0 = bXor .u8 (bs.getD (t / 8) 0) ((128 : Int).fdiv (2 ^ (t % 8))) := by
  unfold flipL
  rw [getD_setI, if_pos ⟨rfl, by omega⟩]
theorem flip_bits {bs : List Int} (hb : Bytes bs) (t : Nat) (ht : t < 8 * bs.length) : bitsL (flipL bs t) = (bitsL bs).set t (!(bitsL bs).getD t false) := by
  have hl := bitsL_len bs
  apply List.ext_getElem?
  intro q
  by_cases hq : q < 8 * bs.length
  · obtain ⟨j, i, hi, hj, rfl⟩ : ∃ j i, i < 8 ∧ j < bs.length ∧ q = 8 * j + i := ⟨q / 8, q % 8, Nat.mod_lt _ (by omega), by omega, by omega⟩
    have e1 := flat8_get bits8 bits8_len (flipL bs t) j i (by rw [flipL_len]; exact hj) hi
    have e2 := flat8_get bits8 bits8_len bs j i hj hi
    rw [show bitsL (flipL bs t) = (flipL bs t).flatMap bits8 from rfl, e1, List.getElem?_set]
    by_cases hjt : j = t / 8
    · subst hjt
      obtain ⟨a, ha⟩ := byte_nat (hb.get (t / 8))
      have e3 := flat8_get bits8 bits8_len bs (t / 8) (t % 8) hj (Nat.mod_lt _ (by decide))
      rw [flip_at t ht, ha, (flip_fin a ⟨t % 8, Nat.mod_lt _ (by decide)⟩).1, List.getElem?_set]
      rw [ha] at e2 e3
      have hlen8 : (bits8 ((a.val : Nat) : Int)).length = 8 := rfl
      have hgt : (bitsL bs).getD t false = (bits8 ((a.val : Nat) : Int)).getD (t % 8) false := by
        unfold bitsL
        rw [List.getD, List.getD, ← e3]
        congr 2; omega
      by_cases hit : t % 8 = i
      · rw [if_pos hit, if_pos (by omega), if_pos (by omega), if_pos (by omega), hgt]
      · rw [if_neg hit, if_neg (by omega)]
        exact e2.symm
    · rw [flip_get t j hjt, if_neg (by omega)]
      exact e2.symm
  · rw [List.getElem?_eq_none (by rw [bitsL_len, flipL_len]; omega), List.getElem?_eq_none (by simp; omega)]
def turnO (F : List Int) (s y : Nat) : Nat → List Int
  | 0 => F
  | i + 1 => if (y.testBit i && decide (s + i < 8 * F.length)) = true then flipL (turnO F s y i) (s + i) else turnO F s y i
def turnC (L s y : Nat) : Nat → Bool
  | 0 => false
  | i + 1 => turnC L s y i || (y.testBit i && decide (s + i < L))
theorem turnO_len (F : List Int) (s y : Nat) : ∀ i, (turnO F s y i).length = F.length
  | 0 => rfl
  | i + 1 => by
    rw [turnO]
    split
    · rw [flipL_len, turnO_len F s y i]
    · exact turnO_len F s y i
theorem turnO_bytes {F : List Int} (hb : Bytes F) (s y : Nat) : ∀ i, Bytes (turnO F s y i)
  | 0 => hb
  | i + 1 => by
    rw [turnO]
    split
    · exact flip_bytes (turnO_bytes hb s y i) _
    · exact turnO_bytes hb s y i
theorem turnO_bits {F : List Int} (hb : Bytes F) (s y : Nat) : ∀ i j, (bitsL (turnO F s y i))[j]? = if (decide (s ≤ j) && (decide (j < s + i) && y.testBit (j - s))) = true then (bitsL F)[j]?.map (fun b => !b) else (bitsL F)[j]?
  | 0, j => by
    rw [if_neg (by simp; omega)]; rfl
  | i + 1, j => by
    have ih := turnO_bits hb s y i j
    by_cases c : (y.testBit i && decide (s + i < 8 * F.length)) = true
    · rw [turnO, if_pos c]
      simp only [Bool.and_eq_true, decide_eq_true_eq] at c
      rw [flip_bits (turnO_bytes hb s y i) (s + i) (by rw [turnO_len]; exact c.2), List.getElem?_set]
      have hlen : (bitsL (turnO F s y i)).length = 8 * F.length := by rw [bitsL_len, turnO_len]
      by_cases hj : s + i = j
      · subst hj
        rw [if_neg (by simp)] at ih
        rw [if_pos rfl, if_pos (by omega), List.getD, ih, if_pos (by simp [c.1])]
        have : s + i < (bitsL F).length := by rw [bitsL_len]; exact c.2
        rw [List.getElem?_eq_getElem this]; rfl
      · rw [if_neg hj, ih]
        have : decide (j < s + (i + 1)) = decide (j < s + i) := decide_eq_decide.2 (by omega)
        rw [this]
    · rw [turnO, if_neg c, ih]
      simp only [Bool.and_eq_true, decide_eq_true_eq, not_and] at c
      by_cases hj : s + i = j
      · subst hj
        rw [if_neg (by simp)]
        by_cases ht : y.testBit i = true
        · have : (bitsL F)[s + i]? = none := List.getElem?_eq_none (by rw [bitsL_len]; have := c ht; omega)
          rw [this]; simp
        · rw [if_neg (by simp [ht])]
      · have : decide (j < s + (i + 1)) = decide (j < s + i) := decide_eq_decide.2 (by omega)
        rw [this]
theorem turnC_ex (L s y : Nat) : ∀ i, turnC L s y i = true → ∃ k, k < i ∧ y.testBit k = true ∧ s + k < L
  | 0, h => by cases h
  | i + 1, h => by
    rw [turnC, Bool.or_eq_true] at h
    rcases h with h | h
    · obtain ⟨k, h1, h2⟩ := turnC_ex L s y i h
      exact ⟨k, by omega, h2⟩
    · simp only [Bool.and_eq_true, decide_eq_true_eq] at h
      exact ⟨i, by omega, h⟩
theorem turnC_no (F : List Int) (s y : Nat) : ∀ i, turnC (8 * F.length) s y i = false → turnO F s y i = F
  | 0, _ => rfl
  | i + 1, h => by
    rw [turnC, Bool.or_eq_false_iff] at h
    rw [turnO, h.2, if_neg (by decide), turnC_no F s y i h.1]
theorem un_turnO {bs : List Int} {m : Int} {n : Nat} (hn : bs.length = n) (h0 : 0 < n) (hb : Bytes bs) (hm : 0 ≤ m ∧ m < 256) (s y : Nat) (h : turnC (8 * (48 * manyN n)) s y 32 = true) : unE (turnO (frameF bs m) s y 32) = 4 := by
  subst hn
  have hl := frameF_len (bs := bs) (m := m) h0
  have hm8 := (many_le bs.length).2 h0
  obtain ⟨k, h1, h2, h3⟩ := turnC_ex _ _ _ _ h
  exact un_turned (X := headF bs m) (by rw [turnO_len, hl]; omega) (by rw [turnO_len, hl]; omega) (by rw [turnO_len]; rfl) s y.testBit (fun j => turnO_bits (frame_bytes hb hm) s y 32 j) k h1 h2 (by rw [turnO_len, hl]; exact h3)
theorem un_nil : unE [] = 5 := by unfold unE; dsimp only; rw [if_pos (.inl rfl)]
theorem un_few {bs : List Int} (h : bs.length ≤ 1000) : unE bs = 0 ∨ unE bs = 4 ∨ unE bs = 5 := by
  unfold unE
  dsimp only
  split
  · simp
  · split
    · simp
    · split
      · simp
      · rename_i h3
        split
        · simp
        · rw [if_neg]
          · simp
          · have := (many_le (lenF bs bs.length)).2
            omega
theorem un_ahead {ys bs : List Int} {n : Nat} (hl : ys.length = 48 * manyN n + 48) (hn : bs.length = n) (h0 : 0 < n) (h : unE ys = 0) : unT ys ≠ bs := by
  intro e
  have hm := (many_le n).2 h0
  have hL : lenF ys ys.length ≠ 0 ∧ manyN (lenF ys ys.length) * 48 = ys.length := by
    unfold unE at h
    dsimp only at h
    split at h
    · cases h
    · split at h
      · cases h
      · split at h
        · cases h
        · rename_i h3
          exact ⟨fun e => h3 (.inr (.inl e)), Decidable.not_not.1 fun e => h3 (.inr (.inr e))⟩
  have hm2 := (many_le (lenF ys ys.length)).2 (by omega)
  unfold unT at e
  rw [if_pos h] at e
  have := congrArg List.length e
  rw [List.length_take, hn] at this
  have hle : lenF ys ys.length = n := by omega
  rw [hle] at hL
  omega
end Go.Proofs.Ytejpcmjokamdcaa
end

section
/- Layers 10, 16 in plain Lean: a bit of a frame that is turned over. -/
set_option linter.unusedVariables false
set_option linter.unusedSimpArgs false
namespace Go.Proofs.Ytejpcmjokamdcaa
open Go.Vc
theorem set_split (l : List Bool) (t : Nat) (h : t < l.length) : l = l.take t ++ [l.getD t false] ++ l.drop (t + 1) ∧ ∀ b, l.set t b = l.take t ++ [b] ++ l.drop (t + 1) := by
  refine ⟨?_, fun b => ?_⟩
  · rw [List.getD, List.getElem?_eq_getElem h, Option.getD_some, List.append_assoc, List.singleton_append, ← List.drop_eq_getElem_cons h, List.take_append_drop]
  · rw [List.set_eq_take_append_cons_drop, if_pos h, List.append_assoc, List.singleton_append]
theorem un_flip {bs : List Int} {m : Int} {n : Nat} (hn : bs.length = n) (h0 : 0 < n) (hb : Bytes bs) (hm : 0 ≤ m ∧ m < 256) (t : Nat) (h : t < 8 * (48 * manyN n)) : unE (flipL (frameF bs m) t) = 4 := by
  have hL : (frameF bs m).length = 48 * manyN n := by rw [← hn]; exact frameF_len (by omega)
  have hmn := (many_le n).2 h0
  have hB : (bitsL (frameF bs m)).length = 8 * (frameF bs m).length := bitsL_len _
  have ht : t < (bitsL (frameF bs m)).length := by rw [hB, hL]; exact h
  obtain ⟨s1, s2⟩ := set_split (bitsL (frameF bs m)) t ht
  exact un_burst (X := headF bs m) (by rw [flipL_len, hL]; omega) (by rw [flipL_len, hL]; omega) _ _ _ _ s1 ((flip_bits (frame_bytes hb hm) t (by rw [hL]; exact h)).trans (s2 _)) rfl (by simp) (by intro hq; injection hq with hq; cases hv : (bitsL (frameF bs m)).getD t false <;> rw [hv] at hq <;> simp at hq)
end Go.Proofs.Ytejpcmjokamdcaa
end

section
/- Layer 1, the document's: Flip. -/
set_option linter.unusedVariables false
set_option linter.unusedSimpArgs false
namespace Go.Proofs.Ytejpcmjokamdcaa
open Go.Vc Go.RowKit

set_option maxRecDepth 100000 in
set_option maxHeartbeats 4000000 in
theorem flip_any (A : Option Addr) (n c Bd : Nat) (bs : List Int) (w : World) (hn : bs.length = n) (hA : Sl w Bd A (iL .u8 bs)) (hBd : Bd ≤ w.heap.size) (t : Nat) (ht : t < 8 * n) (hlen : n < 100000) :
  CV Try.prog 23 #[.slice A n c, .int .i64 ((t : Nat) : Int)] w (fun x w1 => ∃ g' c', x = .slice (some ⟨g', 0, none⟩) n c' ∧ w.heap.size ≤ g' ∧ Rw w1 w.heap.size 5 (some ⟨g', 0, none⟩) n c' (iL .u8 (flipL bs t)) ∧ Step No w w1) := by
 have hS : Step No w w := Step.refl _ _
 refine CV_enter Try.f23 _ 23 [(0, .slice A n c), (1, .int .i64 ((t : Nat) : Int))] Try.func23 rfl rfl (by kernel_rfl) rfl ?_
 refine VC_seq ?_
 refine VC_region ?_
 refine VL_pure 1 [0, 1] [(0, .slice A n c), (1, .int .i64 ((t : Nat) : Int))] (by kernel_rfl) rfl ?_
 refine VL_end (by kernel_rfl) ?_
 refine VQ_next ?_
 refine VC_seq ?_
 refine VC_region ?_
 have hzs1 := hS.size
 refine VL_bs (d := 6) (e := 5) (c := #[]) (len := 0) (by kernel_rfl) (by kernel_rfl) ?_
 intro b1 w1 hn1
 replace hS := Step.trans hS (hn1.step No)
 replace hA := hA.no (hn1.step No)
 have ho1 := hn1.own
 have hzhn1 := hn1.size
 have hqhn1 := hn1.eqb
 refine VL_pure 2 [1, 6, 7] [(1, .int .i64 ((t : Nat) : Int)), (6, .slice (some ⟨b1, 0, none⟩) 0 0), (7, .slice A n c)] (by kernel_rfl) rfl ?_
 have hzs2 := hS.size
 have hzl1 := ho1.lt
 have hbase1 := Nat.le_of_lt ho1.lt
 refine VL_appendS (d := 8) (e := 5) (A := (some ⟨b1, 0, none⟩)) (m := 0) (c := 0) (A2 := A) (m2 := n) (c2 := c) (bytes := 1) (by kernel_rfl) (by kernel_rfl) (by kernel_rfl) b1 w1.heap.size (iL .u8 ([])) (iL .u8 bs) (Rw.of_new ho1 (Nat.le_refl _) (Nat.le_of_ble_eq_true (by kernel_rfl))) (by rw [iL_length]; first | done | exact hn) (Sl.mono hA (by first | exact Nat.le_refl _ | omega)) iL_one n (by omega) (by simp only [maxLen]; omega) (by omega) (by omega) ?_
 intro A1 c1 w2 hr1 hg1
 replace hr1 : Rw w2 b1 5 A1 n c1 (iL .u8 bs) := Rw.cast hr1 rfl (by simp only [iL, List.map_append, List.map_cons, List.map_nil, List.append_assoc, List.cons_append, List.nil_append, List.append_nil])
 have hzhg1 := hg1.size
 replace hS := Step.transNew hS hg1 (fun i hi hG => by (try simp only at hG); omega)
 replace hA := hA.step hg1 (fun k hk hG => by (try simp only at hG); omega)
 replace hbase1 := Nat.le_trans hbase1 (hg1).size
 refine VL_pure 4 [1, 5] [(1, .int .i64 ((t : Nat) : Int)), (5, .slice A1 n c1)] (by kernel_rfl) rfl ?_
 refine VL_end (by kernel_rfl) ?_
 refine VQ_next ?_
 refine VC_seq ?_
 obtain ⟨g1, cur1, rfl, hgbg1, hglg1, -⟩ := hr1.open (by omega)
 refine VC_det [[], [], [1], [], [], [4], [3, 4, 5], [3, 4, 5, 6], [], [8], [8, 9], [3, 4, 5, 6, 7, 8, 9, 10], [0, 1, 2, 3, 4, 5, 6, 7, 8, 9, 10, 11], [0, 1, 2, 3, 4, 5, 6, 7, 8, 9, 10, 11, 12]] 12 [.slice (some ⟨g1, 0, none⟩) n c1, .int .i64 ((t : Nat) : Int), .int .i64 (IntKind.wrap .i64 (((t : Nat) : Int).tdiv 8)), .slice (some ⟨g1, 0, none⟩) n c1, .int .i64 ((t : Nat) : Int), .int .i64 (IntKind.wrap .i64 (((t : Nat) : Int).tdiv 8)), .pointer (some ⟨g1, (t / 8), none⟩), .int .u8 (bs.getD (t / 8) 0), .int .i64 ((t : Nat) : Int), .int .i64 (((t : Nat) : Int).tmod 8), .int .u8 ((128 : Int).fdiv (2 ^ (t % 8))), .int .u8 (bXor .u8 (bs.getD (t / 8) 0) ((128 : Int).fdiv (2 ^ (t % 8))))] [0, 1, 2, 3, 4, 5, 8, 9, 11] [6, 7, 10] (by kernel_rfl) (by kernel_rfl) (by kernel_rfl) (by kernel_rfl) ?_ ?_
 ·intro w3 hs1
  replace hS := Step.trans hS hs1
  replace hA := hA.no hs1
  replace hbase1 := Nat.le_trans hbase1 (hs1).size
  replace hr1 := hr1.no hs1
  replace hglg1 := Nat.lt_of_lt_of_le hglg1 (hs1).size
  exact ⟨Det1_index (d := 15) (b := g1) (o := 0) (len := n) (sz := 1) (m := (IntKind.wrap .i64 (((t : Nat) : Int).tdiv 8))) (by kernel_rfl) (by kernel_rfl) (t / 8) (by rw [show ((t : Nat) : Int).tdiv 8 = ((t / 8 : Nat) : Int) from tdiv_nat t 8, wrap_i64 _ (by omega) (by omega)]) (by omega) (t / 8) (by omega), Det1_load (d := 16) (t := 5) (a := ⟨g1, (t / 8), none⟩) (by kernel_rfl) (by kernel_rfl) (Rw.ldI hr1 (by kernel_rfl) (by omega)), Det1_shr (d := 19) (k := .u8) (x := 128) (y := (((t : Nat) : Int).tmod 8)) (by kernel_rfl) (by kernel_rfl) (t % 8) (tmod_nat t 8) (by simp only [IntKind.bits]; omega), trivial⟩
 intro w3 hs1
 replace hS := Step.trans hS hs1
 replace hA := hA.no hs1
 replace hbase1 := Nat.le_trans hbase1 (hs1).size
 replace hr1 := hr1.no hs1
 replace hglg1 := Nat.lt_of_lt_of_le hglg1 (hs1).size
 refine VL_keep [5, 9, 11, 20] [(5, .slice (some ⟨g1, 0, none⟩) n c1), (9, .slice (some ⟨g1, 0, none⟩) n c1), (11, .int .i64 (IntKind.wrap .i64 (((t : Nat) : Int).tdiv 8))), (20, .int .u8 (bXor .u8 (bs.getD (t / 8) 0) ((128 : Int).fdiv (2 ^ (t % 8)))))] (by kernel_rfl) ?_
 refine VL_index (d := 21) (b := g1) (o := 0) (len := n) (sz := 1) (m := (IntKind.wrap .i64 (((t : Nat) : Int).tdiv 8))) (by kernel_rfl) (by kernel_rfl) (t / 8) (by rw [show ((t : Nat) : Int).tdiv 8 = ((t / 8 : Nat) : Int) from tdiv_nat t 8, wrap_i64 _ (by omega) (by omega)]) (by omega) (t / 8) (by omega) ?_
 obtain ⟨cur2, hgbcur2, hglcur2, howcur2, hcscur2, hcncur2, hcmcur2, hctcur2⟩ := hr1.openG
 refine VL_store (b := g1) (o := (t / 8)) (vs := [.int .u8 (bXor .u8 (bs.getD (t / 8) 0) ((128 : Int).fdiv (2 ^ (t % 8))))]) (by kernel_rfl) (by kernel_rfl) howcur2 (by simp only [List.length_singleton]; omega) ?_
 intro w4 hw1
 replace hS := Step.transNew hS hw1.step (fun _ _ _ => by omega)
 replace hA := hA.step hw1.step (fun k hk (hF : k = g1) => by omega)
 replace hbase1 := Nat.le_trans hbase1 (hw1.step).size
 replace hglg1 := Nat.lt_of_lt_of_le hglg1 (hw1.step).size
 have ho2 := Rw.putI hctcur2 hw1 hgbcur2 hcscur2 hcncur2 hcmcur2 (j := (t / 8)) (by omega)
 have hzhw1 := hw1.same
 refine VL_end (by kernel_rfl) ?_
 refine VQ_next ?_
 refine VC_seq ?_
 refine VC_region ?_
 refine VL_pure 2 [4] [(4, .slice (some ⟨g1, 0, none⟩) n c1)] (by kernel_rfl) rfl ?_
 refine VL_end (by kernel_rfl) ?_
 refine VQ_next ?_
 refine VC_ret ?_
 refine VQ_ret1 (.slice (some ⟨g1, 0, none⟩) n c1) (.inr rfl) rfl rfl ?_
 exact ⟨_, _, rfl, by omega, Rw.low (Rw.cast ho2 rfl rfl) (by omega), hS⟩

end Go.Proofs.Ytejpcmjokamdcaa
end

section
/- Layer 16: MessageFrames. -/
set_option linter.unusedVariables false
set_option linter.unusedSimpArgs false
namespace Go.Proofs.Ytejpcmjokamdcaa
open Go.Vc Go.RowKit

set_option maxRecDepth 100000 in
set_option maxHeartbeats 4000000 in
theorem frames_yes (r : Int) (bk : Bool) (k : Int) (A : Option Addr) (n c : Nat) (l : List IeV) (q : Nat) (w : World) (hn : l.length = n) (hA : Ies w 0 w.heap.size A l) (hc : n ≤ c) (hl : ∀ x ∈ l, IeB x) (hmx : n ≤ 9223372036854775807) (hq : q < 65536) (hf : fewB l = true)  :
  CV Try.prog 7 #[.agg #[.int .i64 r, .bool bk, .int .i64 k, .slice A n c], .int .u16 ((q : Nat) : Int)] w (fun x w1 => x = .bool true ∧ Step No w w1) := by
 have hS : Step No w w := Step.refl _ _
 obtain ⟨hsm, hn20⟩ := fewB_yes hf
 rw [hn] at hn20
 refine CV_enter Try.f7 _ 86 [(0, .agg #[.int .i64 r, .bool bk, .int .i64 k, .slice A n c]), (1, .int .u16 ((q : Nat) : Int))] Try.func7 rfl rfl (by kernel_rfl) rfl ?_
 refine VC_seq ?_
 refine VC_region ?_
 have hzs1 := hS.size
 refine VL_box (d := 2) (t := 24) (c := #[.int .i64 r, .bool bk, .int .i64 k, .slice A n c]) (by kernel_rfl) (by kernel_rfl) ?_
 intro b1 w1 hn1
 replace hS := Step.trans hS (hn1.step No)
 replace hA := hA.no (hn1.step No)
 have ho1 := hn1.own
 have hzhn1 := hn1.size
 have hqhn1 := hn1.eqb
 refine VL_pure 2 [1, 2] [(1, .int .u16 ((q : Nat) : Int)), (2, .pointer (some ⟨b1, 0, none⟩))] (by kernel_rfl) rfl ?_
 refine VL_end (by kernel_rfl) ?_
 refine VQ_next ?_
 refine VC_seq ?_
 refine VC_seq ?_
 refine VC_region ?_
 have hzs2 := hS.size
 have hzl1 := ho1.lt
 refine VL_call (d := 17) (f := 9) (args := #[]) (by kernel_rfl) (by kernel_rfl) (by kernel_rfl) Try.call9 (awake_any _) ?_
 rintro _ w2 ⟨rfl, hc1⟩
 replace hS := Step.trans hS hc1
 replace hA := hA.no hc1
 replace ho1 := ho1.no hc1
 refine VL_pure 3 [1, 2, 19] [(1, .int .u16 ((q : Nat) : Int)), (2, .pointer (some ⟨b1, 0, none⟩)), (19, .bool false)] (by kernel_rfl) rfl ?_
 refine VL_load (d := 20) (t := 24) (a := ⟨b1, 0, none⟩) (v := .agg #[.int .i64 r, .bool bk, .int .i64 k, .slice A n c]) (by kernel_rfl) (by kernel_rfl) (Loads.ownL ho1 (n := 4) (by kernel_rfl) (by kernel_rfl) (by kernel_rfl)) ?_
 have hzs3 := hS.size
 have hzl2 := ho1.lt
 refine VL_call (d := 21) (f := 10) (by kernel_rfl) (by kernel_rfl) (by kernel_rfl) Try.call10 (few16_any r bk k A n c 0 w.heap.size l _ hn hA (by omega)) ?_
 rintro _ w3 ⟨rfl, hc2⟩
 replace hS := Step.trans hS hc2
 replace hA := hA.no hc2
 replace ho1 := ho1.no hc2
 refine VL_pure 7 [1, 2, 23] [(1, .int .u16 ((q : Nat) : Int)), (2, .pointer (some ⟨b1, 0, none⟩)), (23, .bool (!(fewB l)))] (by kernel_rfl) rfl ?_
 refine VL_end (by kernel_rfl) ?_
 refine VQ_next ?_
 refine VC_is (b := !(fewB l)) false (by kernel_rfl) (by rw [show (fewB l) = true from hf]; rfl) ?_
 refine VC_ite_false ?_
 refine VC_skip ?_
 refine VQ_next ?_
 refine VC_seq ?_
 refine VC_region ?_
 refine VL_load (d := 26) (t := 24) (a := ⟨b1, 0, none⟩) (v := .agg #[.int .i64 r, .bool bk, .int .i64 k, .slice A n c]) (by kernel_rfl) (by kernel_rfl) (Loads.ownL ho1 (n := 4) (by kernel_rfl) (by kernel_rfl) (by kernel_rfl)) ?_
 have hzs4 := hS.size
 have hzl3 := ho1.lt
 refine VL_call (d := 27) (f := 11) (by kernel_rfl) (by kernel_rfl) (by kernel_rfl) Try.call11 (msgpack_any r bk k A n c 0 w.heap.size l _ hn hA (by omega) (by first | exact Nat.le_refl _ | omega)) ?_
 rintro _ w4 ⟨A1, c1, rfl, hr1, hc3⟩
 replace hS := Step.trans hS hc3
 replace hA := hA.no hc3
 replace ho1 := ho1.no hc3
 obtain ⟨base1, hbase1E⟩ : ∃ x, x = w3.heap.size := ⟨_, rfl⟩
 rw [← hbase1E] at hr1
 have hbase1 : base1 ≤ w4.heap.size := by rw [hbase1E]; exact hc3.size
 have hmlq1 := msgT_le r bk k (vals l)
 refine VL_pure 7 [1, 2, 5, 6] [(1, .int .u16 ((q : Nat) : Int)), (2, .pointer (some ⟨b1, 0, none⟩)), (5, .slice A1 ((msgT r bk k (vals l)).length) c1), (6, .int .i64 (msgE r bk k (vals l)))] (by kernel_rfl) rfl ?_
 refine VL_end (by kernel_rfl) ?_
 refine VQ_next ?_
 refine VC_seq ?_
 refine VC_seq ?_
 refine VC_region ?_
 refine VL_pure 2 [1, 2, 5, 31] [(1, .int .u16 ((q : Nat) : Int)), (2, .pointer (some ⟨b1, 0, none⟩)), (5, .slice A1 ((msgT r bk k (vals l)).length) c1), (31, .bool ((msgE r bk k (vals l)) != 0))] (by kernel_rfl) rfl ?_
 refine VL_end (by kernel_rfl) ?_
 refine VQ_next ?_
 refine VC_ne (msgE r bk k (vals l)) 0 (by kernel_rfl) (fun h1 => ?_) (fun h1 => ?_)
 ·refine VC_seq ?_
  refine VC_region ?_
  refine VL_pure 4 [4] [(4, .bool ((((msgT r bk k (vals l)).length : Nat) : Int) == 0))] (by kernel_rfl) rfl ?_
  refine VL_end (by kernel_rfl) ?_
  refine VQ_next ?_
  refine VC_ret ?_
  refine VQ_then_ret ?_
  refine VQ_ret1 (.bool ((((msgT r bk k (vals l)).length : Nat) : Int) == 0)) (.inr rfl) rfl rfl ?_
  exact ⟨congrArg Value.bool (by rw [show msgT r bk k (vals l) = [] from if_neg (by assumption)]; rfl), hS⟩
 ·refine VC_skip ?_
  refine VQ_next ?_
  refine VC_seq ?_
  have hml9 := msg_len (r := r) (back := bk) (k := k) (L := vals l) (by first | assumption | exact Classical.not_not.1 (by assumption))
  refine VC_region ?_
  refine VL_pure 1 [1, 2, 36] [(1, .int .u16 ((q : Nat) : Int)), (2, .pointer (some ⟨b1, 0, none⟩)), (36, .slice A1 ((msgT r bk k (vals l)).length) c1)] (by kernel_rfl) rfl ?_
  have hzs5 := hS.size
  have hzl4 := ho1.lt
  refine VL_call (d := 37) (f := 21) (by kernel_rfl) (by kernel_rfl) (by kernel_rfl) Try.call21 (pack_yes A1 ((msgT r bk k (vals l)).length) c1 _ (msgT r bk k (vals l)) _ (Rw.lenI hr1) (Rw.slI hr1) 0 (by first | exact Nat.le_refl _ | omega) (by omega) (by omega)) ?_
  rintro _ w5 ⟨g1, c2, rfl, hggg1, hr2, hc4⟩
  replace hS := Step.trans hS hc4
  replace hA := hA.no hc4
  replace ho1 := ho1.no hc4
  replace hbase1 := Nat.le_trans hbase1 (hc4).size
  replace hr1 := hr1.no hc4
  obtain ⟨base2, hbase2E⟩ : ∃ x, x = w4.heap.size := ⟨_, rfl⟩
  rw [← hbase2E] at hr2 hggg1
  have hbase2 : base2 ≤ w5.heap.size := by rw [hbase2E]; exact hc4.size
  have hglg1 : g1 < w5.heap.size := (Rw.openG hr2).choose_spec.2.1
  have hcapg1 := Rw.cap hr2
  have hmmq2 := (many_le ((msgT r bk k (vals l)).length)).2 (by omega)
  refine VL_pure 7 [1, 2, 7, 8] [(1, .int .u16 ((q : Nat) : Int)), (2, .pointer (some ⟨b1, 0, none⟩)), (7, .slice (some ⟨g1, 0, none⟩) (48 * manyN ((msgT r bk k (vals l)).length)) c2), (8, .int .i64 0)] (by kernel_rfl) rfl ?_
  refine VL_end (by kernel_rfl) ?_
  refine VQ_next ?_
  refine VC_seq ?_
  refine VC_seq ?_
  refine VC_region ?_
  refine VL_pure 7 [1, 2, 7, 46] [(1, .int .u16 ((q : Nat) : Int)), (2, .pointer (some ⟨b1, 0, none⟩)), (7, .slice (some ⟨g1, 0, none⟩) (48 * manyN ((msgT r bk k (vals l)).length)) c2), (46, .bool (((48 * manyN ((msgT r bk k (vals l)).length) : Nat) : Int) == 0))] (by kernel_rfl) rfl ?_
  refine VL_end (by kernel_rfl) ?_
  refine VQ_next ?_
  refine VC_is (b := ((48 * manyN ((msgT r bk k (vals l)).length) : Nat) : Int) == 0) false (by kernel_rfl) (by rw [beq_eq_false_iff_ne]; omega) ?_
  refine VC_ite_false ?_
  refine VC_skip ?_
  refine VQ_next ?_
  refine VC_seq ?_
  refine VC_region ?_
  refine VL_pure 1 [1, 2, 7, 48] [(1, .int .u16 ((q : Nat) : Int)), (2, .pointer (some ⟨b1, 0, none⟩)), (7, .slice (some ⟨g1, 0, none⟩) (48 * manyN ((msgT r bk k (vals l)).length)) c2), (48, .slice (some ⟨g1, 0, none⟩) (48 * manyN ((msgT r bk k (vals l)).length)) c2)] (by kernel_rfl) rfl ?_
  have hzs6 := hS.size
  have hzl5 := ho1.lt
  refine VL_call (d := 49) (f := 22) (by kernel_rfl) (by kernel_rfl) (by kernel_rfl) Try.call22 (unpack_frame (some ⟨g1, 0, none⟩) (48 * manyN ((msgT r bk k (vals l)).length)) c2 _ (msgT r bk k (vals l)) 0 (msgT r bk k (vals l)).length _ (Rw.lenI hr2) (Rw.slI hr2) rfl (by omega) (by omega) (msgT_bytes hl) (by omega) (by first | exact Nat.le_refl _ | omega) (by omega) (by have hq9 := Rw.cap hr2; omega)) ?_
  rintro _ w6 ⟨A2, c3, rfl, hr3, hc5⟩
  replace hS := Step.trans hS hc5
  replace hA := hA.no hc5
  replace ho1 := ho1.no hc5
  replace hbase1 := Nat.le_trans hbase1 (hc5).size
  replace hr1 := hr1.no hc5
  replace hbase2 := Nat.le_trans hbase2 (hc5).size
  replace hglg1 := Nat.lt_of_lt_of_le hglg1 (hc5).size
  replace hr2 := hr2.no hc5
  obtain ⟨base3, hbase3E⟩ : ∃ x, x = w5.heap.size := ⟨_, rfl⟩
  rw [← hbase3E] at hr3
  have hbase3 : base3 ≤ w6.heap.size := by rw [hbase3E]; exact hc5.size
  refine VL_pure 9 [1, 2, 7, 9, 11] [(1, .int .u16 ((q : Nat) : Int)), (2, .pointer (some ⟨b1, 0, none⟩)), (7, .slice (some ⟨g1, 0, none⟩) (48 * manyN ((msgT r bk k (vals l)).length)) c2), (9, .slice A2 ((msgT r bk k (vals l)).length) c3), (11, .int .i64 0)] (by kernel_rfl) rfl ?_
  refine VL_end (by kernel_rfl) ?_
  refine VQ_next ?_
  refine VC_seq ?_
  refine VC_region ?_
  refine VL_pure 1 [1, 2, 7, 11, 54] [(1, .int .u16 ((q : Nat) : Int)), (2, .pointer (some ⟨b1, 0, none⟩)), (7, .slice (some ⟨g1, 0, none⟩) (48 * manyN ((msgT r bk k (vals l)).length)) c2), (11, .int .i64 0), (54, .slice A2 ((msgT r bk k (vals l)).length) c3)] (by kernel_rfl) rfl ?_
  have hzs7 := hS.size
  have hzl6 := ho1.lt
  refine VL_call (d := 55) (f := 13) (by kernel_rfl) (by kernel_rfl) (by kernel_rfl) Try.call13 (msgun_any A2 ((msgT r bk k (vals l)).length) c3 _ (msgT r bk k (vals l)) _ (Rw.lenI hr3) (Rw.slI hr3) (by have hq9 := Rw.cap hr3; omega) (msgT_bytes hl) (by omega) (by first | exact Nat.le_refl _ | omega)) ?_
  rintro _ w7 ⟨Ai1, ci1, li1, rfl, hv1, hI1, hc6⟩
  replace hS := Step.trans hS hc6
  replace hA := hA.no hc6
  replace ho1 := ho1.no hc6
  replace hbase1 := Nat.le_trans hbase1 (hc6).size
  replace hr1 := hr1.no hc6
  replace hbase2 := Nat.le_trans hbase2 (hc6).size
  replace hglg1 := Nat.lt_of_lt_of_le hglg1 (hc6).size
  replace hr2 := hr2.no hc6
  replace hbase3 := Nat.le_trans hbase3 (hc6).size
  replace hr3 := hr3.no hc6
  have hleli1 : w7.heap.size ≤ w7.heap.size := Nat.le_refl _
  have hV1 := Ier.ies hI1
  have hcntli1 : li1.length ≤ 16 := by rw [← vals_len, hv1]; exact muL_count (msgT r bk k (vals l))
  have hcali1 : li1.length ≤ ci1 := RwS.cap hI1.row
  have hibli1 : ∀ x ∈ li1, IeB x := mu_ieb hv1 (msgT_bytes hl)
  have hsmli1 : ∀ x ∈ li1, x.n ≤ 200 := mu_small hV1 hv1 (msgT_bytes hl)
  refine VL_pure 5 [1, 2, 7, 11, 56, 57] [(1, .int .u16 ((q : Nat) : Int)), (2, .pointer (some ⟨b1, 0, none⟩)), (7, .slice (some ⟨g1, 0, none⟩) (48 * manyN ((msgT r bk k (vals l)).length)) c2), (11, .int .i64 0), (56, .agg #[.int .i64 (muR (msgT r bk k (vals l))), .bool (muB (msgT r bk k (vals l))), .int .i64 (muK (msgT r bk k (vals l))), .slice Ai1 li1.length ci1]), (57, .int .i64 (muE (msgT r bk k (vals l))))] (by kernel_rfl) rfl ?_
  have hzs8 := hS.size
  have hzl7 := ho1.lt
  have hzk1 := hbase1
  have hzk2 := hbase2
  have hzk3 := hglg1
  have hzk4 := hbase3
  have hzk5 := hleli1
  have hub1 := hr1.ub
  have hub2 := hr3.ub
  refine VL_box (d := 12) (t := 24) (c := #[.int .i64 0, .bool false, .int .i64 0, .slice none 0 0]) (by kernel_rfl) (by kernel_rfl) ?_
  intro b2 w8 hn2
  replace hS := Step.trans hS (hn2.step No)
  replace hA := hA.no (hn2.step No)
  replace ho1 := ho1.no (hn2.step No)
  replace hbase1 := Nat.le_trans hbase1 (hn2.step No).size
  replace hr1 := hr1.no (hn2.step No)
  replace hbase2 := Nat.le_trans hbase2 (hn2.step No).size
  replace hglg1 := Nat.lt_of_lt_of_le hglg1 (hn2.step No).size
  replace hr2 := hr2.no (hn2.step No)
  replace hbase3 := Nat.le_trans hbase3 (hn2.step No).size
  replace hr3 := hr3.no (hn2.step No)
  replace hV1 := hV1.no (hn2.step No)
  replace hleli1 := Nat.le_trans hleli1 (hn2.step No).size
  have ho2 := hn2.own
  have hzhn2 := hn2.size
  have hqhn2 := hn2.eqb
  refine VL_store (b := b2) (o := 0) (vs := [.int .i64 (muR (msgT r bk k (vals l))), .bool (muB (msgT r bk k (vals l))), .int .i64 (muK (msgT r bk k (vals l))), .slice Ai1 li1.length ci1]) (by kernel_rfl) (by kernel_rfl) ho2 (Nat.le_of_ble_eq_true (by kernel_rfl)) ?_
  intro w9 hw1
  replace hS := Step.transNew hS hw1.step (fun _ _ _ => by omega)
  replace hA := hA.step hw1.step (fun k hk1 hk2 (hF : k = b2) => by omega)
  replace ho1 := ho1.step hw1.step (show ¬ b1 = b2 by omega)
  replace hbase1 := Nat.le_trans hbase1 (hw1.step).size
  replace hbase2 := Nat.le_trans hbase2 (hw1.step).size
  replace hglg1 := Nat.lt_of_lt_of_le hglg1 (hw1.step).size
  replace hr2 := hr2.keepG hw1.step (show ¬ g1 = b2 by omega)
  replace hbase3 := Nat.le_trans hbase3 (hw1.step).size
  replace hV1 := hV1.step hw1.step (fun k hk1 hk2 (hF : k = b2) => by omega)
  replace hleli1 := Nat.le_trans hleli1 (hw1.step).size
  have ho3 : Own w9 b2 #[.int .i64 (muR (msgT r bk k (vals l))), .bool (muB (msgT r bk k (vals l))), .int .i64 (muK (msgT r bk k (vals l))), .slice Ai1 li1.length ci1] 24 := Own.cast hw1.own (by kernel_rfl)
  have hzhw1 := hw1.same
  refine VL_pure 8 [1, 2, 7, 11, 12, 13] [(1, .int .u16 ((q : Nat) : Int)), (2, .pointer (some ⟨b1, 0, none⟩)), (7, .slice (some ⟨g1, 0, none⟩) (48 * manyN ((msgT r bk k (vals l)).length)) c2), (11, .int .i64 0), (12, .pointer (some ⟨b2, 0, none⟩)), (13, .int .i64 (muE (msgT r bk k (vals l))))] (by kernel_rfl) rfl ?_
  refine VL_end (by kernel_rfl) ?_
  refine VQ_next ?_
  refine VC_seq ?_
  refine VC_region ?_
  refine VL_pure 3 [2, 7, 11, 12, 13, 59, 61] [(2, .pointer (some ⟨b1, 0, none⟩)), (7, .slice (some ⟨g1, 0, none⟩) (48 * manyN ((msgT r bk k (vals l)).length)) c2), (11, .int .i64 0), (12, .pointer (some ⟨b2, 0, none⟩)), (13, .int .i64 (muE (msgT r bk k (vals l)))), (59, .slice (some ⟨g1, 0, none⟩) (48 * manyN ((msgT r bk k (vals l)).length)) c2), (61, .int .i64 (IntKind.wrap .i64 ((q : Nat) : Int)))] (by kernel_rfl) rfl ?_
  have he1 : IntKind.wrap .i64 ((q : Nat) : Int) = ((q : Nat) : Int) := (by rw [wrap_i64 _ (by omega) (by omega)])
  refine VL_eq [(2, .pointer (some ⟨b1, 0, none⟩)), (7, .slice (some ⟨g1, 0, none⟩) (48 * manyN ((msgT r bk k (vals l)).length)) c2), (11, .int .i64 0), (12, .pointer (some ⟨b2, 0, none⟩)), (13, .int .i64 (muE (msgT r bk k (vals l)))), (59, .slice (some ⟨g1, 0, none⟩) (48 * manyN ((msgT r bk k (vals l)).length)) c2), (61, .int .i64 ((q : Nat) : Int))] (by rw [he1]) ?_
  refine VL_pure 6 [2, 11, 12, 13, 59, 61, 64] [(2, .pointer (some ⟨b1, 0, none⟩)), (11, .int .i64 0), (12, .pointer (some ⟨b2, 0, none⟩)), (13, .int .i64 (muE (msgT r bk k (vals l)))), (59, .slice (some ⟨g1, 0, none⟩) (48 * manyN ((msgT r bk k (vals l)).length)) c2), (61, .int .i64 ((q : Nat) : Int)), (64, .int .i64 (IntKind.wrap .i64 (8 * ((48 * manyN ((msgT r bk k (vals l)).length) : Nat) : Int))))] (by kernel_rfl) rfl ?_
  have he2 : IntKind.wrap .i64 (8 * ((48 * manyN ((msgT r bk k (vals l)).length) : Nat) : Int)) = ((8 * (48 * manyN ((msgT r bk k (vals l)).length)) : Nat) : Int) := (by rw [wrap_i64 _ (by omega) (by omega)]; omega)
  refine VL_eq [(2, .pointer (some ⟨b1, 0, none⟩)), (11, .int .i64 0), (12, .pointer (some ⟨b2, 0, none⟩)), (13, .int .i64 (muE (msgT r bk k (vals l)))), (59, .slice (some ⟨g1, 0, none⟩) (48 * manyN ((msgT r bk k (vals l)).length)) c2), (61, .int .i64 ((q : Nat) : Int)), (64, .int .i64 ((8 * (48 * manyN ((msgT r bk k (vals l)).length)) : Nat) : Int))] (by rw [he2]) ?_
  refine VL_rem (d := 65) (k := .i64) (x := ((q : Nat) : Int)) (y := ((8 * (48 * manyN ((msgT r bk k (vals l)).length)) : Nat) : Int)) (by kernel_rfl) (by kernel_rfl) (by omega) ?_
  refine VL_keep [2, 11, 12, 13, 59, 61, 64, 65] [(2, .pointer (some ⟨b1, 0, none⟩)), (11, .int .i64 0), (12, .pointer (some ⟨b2, 0, none⟩)), (13, .int .i64 (muE (msgT r bk k (vals l)))), (59, .slice (some ⟨g1, 0, none⟩) (48 * manyN ((msgT r bk k (vals l)).length)) c2), (61, .int .i64 ((q : Nat) : Int)), (64, .int .i64 ((8 * (48 * manyN ((msgT r bk k (vals l)).length)) : Nat) : Int)), (65, .int .i64 (((q : Nat) : Int).tmod ((8 * (48 * manyN ((msgT r bk k (vals l)).length)) : Nat) : Int)))] (by kernel_rfl) ?_
  have hqm := Nat.mod_lt q (show 0 < 8 * (48 * manyN ((msgT r bk k (vals l)).length)) by omega)
  refine VL_eq [(2, .pointer (some ⟨b1, 0, none⟩)), (11, .int .i64 0), (12, .pointer (some ⟨b2, 0, none⟩)), (13, .int .i64 (muE (msgT r bk k (vals l)))), (59, .slice (some ⟨g1, 0, none⟩) (48 * manyN ((msgT r bk k (vals l)).length)) c2), (61, .int .i64 ((q : Nat) : Int)), (64, .int .i64 ((8 * (48 * manyN ((msgT r bk k (vals l)).length)) : Nat) : Int)), (65, .int .i64 ((q % (8 * (48 * manyN ((msgT r bk k (vals l)).length))) : Nat) : Int))] (by rw [tmod_nat]) ?_
  have hzs9 := hS.size
  have hzl8 := ho1.lt
  have hzl9 := ho3.lt
  refine VL_call (d := 66) (f := 23) (by kernel_rfl) (by kernel_rfl) (by kernel_rfl) Try.call23 (flip_any (some ⟨g1, 0, none⟩) (48 * manyN ((msgT r bk k (vals l)).length)) c2 _ (frameF (msgT r bk k (vals l)) 0) _ (Rw.lenI hr2) (Rw.slI hr2) (by first | exact Nat.le_refl _ | omega) (q % (8 * (48 * manyN ((msgT r bk k (vals l)).length)))) (by omega) (by omega)) ?_
  rintro _ w10 ⟨fg1, fc1, rfl, fhg1, fh1, hc7⟩
  replace hS := Step.trans hS hc7
  replace hA := hA.no hc7
  replace ho1 := ho1.no hc7
  replace hbase1 := Nat.le_trans hbase1 (hc7).size
  replace hbase2 := Nat.le_trans hbase2 (hc7).size
  replace hglg1 := Nat.lt_of_lt_of_le hglg1 (hc7).size
  replace hr2 := hr2.no hc7
  replace hbase3 := Nat.le_trans hbase3 (hc7).size
  replace hV1 := hV1.no hc7
  replace hleli1 := Nat.le_trans hleli1 (hc7).size
  replace ho3 := ho3.no hc7
  obtain ⟨fb1, fhb1E⟩ : ∃ x, x = w9.heap.size := ⟨_, rfl⟩
  rw [← fhb1E] at fh1 fhg1
  have fhb1 : fb1 ≤ w10.heap.size := by rw [fhb1E]; exact hc7.size
  have hglfg1 : fg1 < w10.heap.size := (Rw.openG fh1).choose_spec.2.1
  have hzs10 := hS.size
  have hzl10 := ho1.lt
  have hzl11 := ho3.lt
  refine VL_call (d := 67) (f := 22) (by kernel_rfl) (by kernel_rfl) (by kernel_rfl) Try.call22 (unpack_any (some ⟨fg1, 0, none⟩) (48 * manyN ((msgT r bk k (vals l)).length)) fc1 _ (flipL (frameF (msgT r bk k (vals l)) 0) (q % (8 * (48 * manyN ((msgT r bk k (vals l)).length))))) _ (Rw.lenI fh1) (Rw.slI fh1) (flip_bytes (frame_bytes (msgT_bytes hl) (by omega)) _) (by first | exact Nat.le_refl _ | omega) (by omega) (by have hq9 := Rw.cap fh1; omega)) ?_
  rintro _ w11 ⟨A3, c4, rfl, hr4, hc8⟩
  replace hS := Step.trans hS hc8
  replace hA := hA.no hc8
  replace ho1 := ho1.no hc8
  replace hbase1 := Nat.le_trans hbase1 (hc8).size
  replace hbase2 := Nat.le_trans hbase2 (hc8).size
  replace hglg1 := Nat.lt_of_lt_of_le hglg1 (hc8).size
  replace hr2 := hr2.no hc8
  replace hbase3 := Nat.le_trans hbase3 (hc8).size
  replace hV1 := hV1.no hc8
  replace hleli1 := Nat.le_trans hleli1 (hc8).size
  replace ho3 := ho3.no hc8
  replace fhb1 := Nat.le_trans fhb1 (hc8).size
  replace hglfg1 := Nat.lt_of_lt_of_le hglfg1 (hc8).size
  replace fh1 := fh1.no hc8
  obtain ⟨base4, hbase4E⟩ : ∃ x, x = w10.heap.size := ⟨_, rfl⟩
  rw [← hbase4E] at hr4
  have hbase4 : base4 ≤ w11.heap.size := by rw [hbase4E]; exact hc8.size
  have hutq3 := unT_le (flipL (frameF (msgT r bk k (vals l)) 0) (q % (8 * (48 * manyN ((msgT r bk k (vals l)).length)))))
  refine VL_pure 16 [2, 11, 12, 13, 16] [(2, .pointer (some ⟨b1, 0, none⟩)), (11, .int .i64 0), (12, .pointer (some ⟨b2, 0, none⟩)), (13, .int .i64 (muE (msgT r bk k (vals l)))), (16, .int .i64 (unE (flipL (frameF (msgT r bk k (vals l)) 0) (q % (8 * (48 * manyN ((msgT r bk k (vals l)).length)))))))] (by kernel_rfl) rfl ?_
  refine VL_end (by kernel_rfl) ?_
  refine VQ_next ?_
  refine VC_seq ?_
  refine VC_region ?_
  refine VL_pure 7 [2, 12, 16, 77] [(2, .pointer (some ⟨b1, 0, none⟩)), (12, .pointer (some ⟨b2, 0, none⟩)), (16, .int .i64 (unE (flipL (frameF (msgT r bk k (vals l)) 0) (q % (8 * (48 * manyN ((msgT r bk k (vals l)).length))))))), (77, .bool ((muE (msgT r bk k (vals l))) == 0))] (by kernel_rfl) rfl ?_
  refine VL_known ((muE (msgT r bk k (vals l))) == 0) (fun bV => [(2, .pointer (some ⟨b1, 0, none⟩)), (12, .pointer (some ⟨b2, 0, none⟩)), (16, .int .i64 (unE (flipL (frameF (msgT r bk k (vals l)) 0) (q % (8 * (48 * manyN ((msgT r bk k (vals l)).length))))))), (77, .bool bV)]) true rfl (by rw [(msg_there (by first | assumption | exact Classical.not_not.1 (by assumption))).1]; rfl) ?_
  refine VL_load (d := 78) (t := 24) (a := ⟨b2, 0, none⟩) (v := .agg #[.int .i64 (muR (msgT r bk k (vals l))), .bool (muB (msgT r bk k (vals l))), .int .i64 (muK (msgT r bk k (vals l))), .slice Ai1 li1.length ci1]) (by kernel_rfl) (by kernel_rfl) (Loads.ownL ho3 (n := 4) (by kernel_rfl) (by kernel_rfl) (by kernel_rfl)) ?_
  refine VL_load (d := 79) (t := 24) (a := ⟨b1, 0, none⟩) (v := .agg #[.int .i64 r, .bool bk, .int .i64 k, .slice A n c]) (by kernel_rfl) (by kernel_rfl) (Loads.ownL ho1 (n := 4) (by kernel_rfl) (by kernel_rfl) (by kernel_rfl)) ?_
  have hzs11 := hS.size
  have hzl12 := ho1.lt
  have hzl13 := ho3.lt
  refine VL_call (d := 80) (f := 16) (by kernel_rfl) (by kernel_rfl) (by kernel_rfl) Try.call16 (same16_any (muR (msgT r bk k (vals l))) (muB (msgT r bk k (vals l))) (muK (msgT r bk k (vals l))) r bk k Ai1 li1.length ci1 w6.heap.size w7.heap.size li1 _ rfl hV1 A n c 0 w.heap.size l hn hA   (by omega) (fun x hx => by have hq9 := hsmli1 x hx; omega) (fun x hx => by have hq9 := hsm x hx; omega) (by first | exact Nat.le_refl _ | omega) (by first | exact Nat.le_refl _ | omega)) ?_
  rintro _ w12 ⟨rfl, hc9⟩
  replace hS := Step.trans hS hc9
  replace hA := hA.no hc9
  replace ho1 := ho1.no hc9
  replace hbase1 := Nat.le_trans hbase1 (hc9).size
  replace hbase2 := Nat.le_trans hbase2 (hc9).size
  replace hglg1 := Nat.lt_of_lt_of_le hglg1 (hc9).size
  replace hr2 := hr2.no hc9
  replace hbase3 := Nat.le_trans hbase3 (hc9).size
  replace hV1 := hV1.no hc9
  replace hleli1 := Nat.le_trans hleli1 (hc9).size
  replace ho3 := ho3.no hc9
  replace fhb1 := Nat.le_trans fhb1 (hc9).size
  replace hglfg1 := Nat.lt_of_lt_of_le hglfg1 (hc9).size
  replace fh1 := fh1.no hc9
  replace hbase4 := Nat.le_trans hbase4 (hc9).size
  replace hr4 := hr4.no hc9
  refine VL_pure 12 [16, 82] [(16, .int .i64 (unE (flipL (frameF (msgT r bk k (vals l)) 0) (q % (8 * (48 * manyN ((msgT r bk k (vals l)).length))))))), (82, .bool (sameM (muR (msgT r bk k (vals l))) (muB (msgT r bk k (vals l))) (muK (msgT r bk k (vals l))) (vals li1) r bk k (vals l)))] (by kernel_rfl) rfl ?_
  refine VL_known (sameM (muR (msgT r bk k (vals l))) (muB (msgT r bk k (vals l))) (muK (msgT r bk k (vals l))) (vals li1) r bk k (vals l)) (fun bV => [(16, .int .i64 (unE (flipL (frameF (msgT r bk k (vals l)) 0) (q % (8 * (48 * manyN ((msgT r bk k (vals l)).length))))))), (82, .bool bV)]) true rfl (sameM_is (msg_there (by first | assumption | exact Classical.not_not.1 (by assumption))).2.1 (msg_there (by first | assumption | exact Classical.not_not.1 (by assumption))).2.2.1 (msg_there (by first | assumption | exact Classical.not_not.1 (by assumption))).2.2.2.1 (by rw [hv1]; exact (msg_there (by first | assumption | exact Classical.not_not.1 (by assumption))).2.2.2.2)) ?_
  refine VL_pure 16 [4] [(4, .bool ((unE (flipL (frameF (msgT r bk k (vals l)) 0) (q % (8 * (48 * manyN ((msgT r bk k (vals l)).length)))))) == 4))] (by kernel_rfl) rfl ?_
  refine VL_end (by kernel_rfl) ?_
  refine VQ_next ?_
  refine VC_ret ?_
  refine VQ_ret1 (.bool ((unE (flipL (frameF (msgT r bk k (vals l)) 0) (q % (8 * (48 * manyN ((msgT r bk k (vals l)).length)))))) == 4)) (.inr rfl) rfl rfl ?_
  exact ⟨congrArg Value.bool (beq_iff_eq.2 (un_flip rfl (by omega) (msgT_bytes hl) (by omega) _ (by omega))), hS⟩

set_option maxRecDepth 100000 in
set_option maxHeartbeats 4000000 in
theorem frames_o1 (r : Int) (bk : Bool) (k : Int) (A : Option Addr) (n c : Nat) (l : List IeV) (q : Nat) (w : World) (hn : l.length = n) (hA : Ies w 0 w.heap.size A l) (hc : n ≤ c) (hl : ∀ x ∈ l, IeB x) (hmx : n ≤ 9223372036854775807) (hq : q < 65536) (hf : fewB l = false)  :
  CV Try.prog 7 #[.agg #[.int .i64 r, .bool bk, .int .i64 k, .slice A n c], .int .u16 ((q : Nat) : Int)] w (fun x w1 => x = .bool true ∧ Step No w w1) := by
 have hS : Step No w w := Step.refl _ _
 refine CV_enter Try.f7 _ 86 [(0, .agg #[.int .i64 r, .bool bk, .int .i64 k, .slice A n c]), (1, .int .u16 ((q : Nat) : Int))] Try.func7 rfl rfl (by kernel_rfl) rfl ?_
 refine VC_seq ?_
 refine VC_region ?_
 have hzs1 := hS.size
 refine VL_box (d := 2) (t := 24) (c := #[.int .i64 r, .bool bk, .int .i64 k, .slice A n c]) (by kernel_rfl) (by kernel_rfl) ?_
 intro b1 w1 hn1
 replace hS := Step.trans hS (hn1.step No)
 replace hA := hA.no (hn1.step No)
 have ho1 := hn1.own
 have hzhn1 := hn1.size
 have hqhn1 := hn1.eqb
 refine VL_pure 2 [1, 2] [(1, .int .u16 ((q : Nat) : Int)), (2, .pointer (some ⟨b1, 0, none⟩))] (by kernel_rfl) rfl ?_
 refine VL_end (by kernel_rfl) ?_
 refine VQ_next ?_
 refine VC_seq ?_
 refine VC_seq ?_
 refine VC_region ?_
 have hzs2 := hS.size
 have hzl1 := ho1.lt
 refine VL_call (d := 17) (f := 9) (args := #[]) (by kernel_rfl) (by kernel_rfl) (by kernel_rfl) Try.call9 (awake_any _) ?_
 rintro _ w2 ⟨rfl, hc1⟩
 replace hS := Step.trans hS hc1
 replace hA := hA.no hc1
 replace ho1 := ho1.no hc1
 refine VL_pure 3 [1, 2, 19] [(1, .int .u16 ((q : Nat) : Int)), (2, .pointer (some ⟨b1, 0, none⟩)), (19, .bool false)] (by kernel_rfl) rfl ?_
 refine VL_load (d := 20) (t := 24) (a := ⟨b1, 0, none⟩) (v := .agg #[.int .i64 r, .bool bk, .int .i64 k, .slice A n c]) (by kernel_rfl) (by kernel_rfl) (Loads.ownL ho1 (n := 4) (by kernel_rfl) (by kernel_rfl) (by kernel_rfl)) ?_
 have hzs3 := hS.size
 have hzl2 := ho1.lt
 refine VL_call (d := 21) (f := 10) (by kernel_rfl) (by kernel_rfl) (by kernel_rfl) Try.call10 (few16_any r bk k A n c 0 w.heap.size l _ hn hA (by omega)) ?_
 rintro _ w3 ⟨rfl, hc2⟩
 replace hS := Step.trans hS hc2
 replace hA := hA.no hc2
 replace ho1 := ho1.no hc2
 refine VL_pure 7 [1, 2, 23] [(1, .int .u16 ((q : Nat) : Int)), (2, .pointer (some ⟨b1, 0, none⟩)), (23, .bool (!(fewB l)))] (by kernel_rfl) rfl ?_
 refine VL_end (by kernel_rfl) ?_
 refine VQ_next ?_
 refine VC_is (b := !(fewB l)) true (by kernel_rfl) (by rw [show (fewB l) = false from hf]; rfl) ?_
 refine VC_ite_true ?_
 refine VC_seq ?_
 refine VC_region ?_
 have hzs4 := hS.size
 have hzl3 := ho1.lt
 refine VL_call (d := 24) (f := 9) (args := #[]) (by kernel_rfl) (by kernel_rfl) (by kernel_rfl) Try.call9 (awake_any _) ?_
 rintro _ w4 ⟨rfl, hc3⟩
 replace hS := Step.trans hS hc3
 replace hA := hA.no hc3
 replace ho1 := ho1.no hc3
 refine VL_pure 2 [4] [(4, .bool true)] (by kernel_rfl) rfl ?_
 refine VL_end (by kernel_rfl) ?_
 refine VQ_next ?_
 refine VC_ret ?_
 refine VQ_then_ret ?_
 refine VQ_ret1 (.bool true) (.inr rfl) rfl rfl ?_
 exact ⟨by first | rfl | simp [*], hS⟩

end Go.Proofs.Ytejpcmjokamdcaa
end

section
/- Rows: arguments that hold slices: what lies at each element. -/
set_option linter.unusedVariables false
set_option linter.unusedSimpArgs false
namespace Go.Vc
open Go.RowKit Go.ChangeShapes Go.WideShapes Go.ChangeAt
section
variable {H : Type} {enc : TypeId × Value → H} {P : Program} {w : World} {spare : Nat → Bool} {held : Bool}
theorem trod_slice {t e : TypeId} {sz : Nat} (ht : P.underlying t = some (.slice e)) (hsz : P.cellsOf e = sz) (hpos : 0 < sz) {f : Nat} {cs : List Value} {x : DataW H × List MemPlace} (hf : DataW.trod enc P w 0 spare held f t cs = some x) :
    ∃ A n c f', cs = [.slice A n c] ∧ n ≤ c ∧ c ≤ maxLen ∧ (0 < n → ∃ b o, A = some ⟨b, o, none⟩ ∧ b < w.heap.size ∧ ∀ i, i < n → ∃ cs x, cs.length = sz ∧ (∀ j, j < sz → w.cell? ⟨b, o + i * sz + j, none⟩ = cs[j]?) ∧ DataW.trod enc P w 0 spare held f' e cs = some x) := by
  cases f with
  | zero => cases hf
  | succ f =>
    unfold DataW.trod at hf
    split at hf <;> rename_i heq <;> (try (rw [ht] at heq; simp only [Option.some.injEq, reduceCtorEq] at heq; done)) <;> (try (cases hf; done))
    · exact ⟨none, 0, 0, 0, rfl, Nat.le_refl _, by simp [maxLen], fun h0 => absurd h0 (by omega)⟩
    · rename_i e' a n c
      rw [ht] at heq
      simp only [Option.some.injEq, TypeDesc.slice.injEq] at heq
      subst heq
      split at hf
      · rename_i hb
        obtain ⟨elems, hel, _⟩ := Option.bind_eq_some_iff.1 hf
        refine ⟨some a, n, c, f, rfl, hb.2.1, hb.2.2, fun h0 => ?_⟩
        have key : ∀ i, i < n → ∃ cs x, cs.length = sz ∧ (∀ j, j < sz → w.cell? ((a.add (i * sz)).add j) = cs[j]?) ∧ DataW.trod enc P w 0 spare held f e cs = some x := by
          intro i hi
          obtain ⟨y, hy⟩ := mapM_mem hel i (List.mem_range.2 hi)
          obtain ⟨cs, h1, h2⟩ := Option.bind_eq_some_iff.1 hy
          rw [hsz] at h1
          unfold World.cells? at h1
          split at h1
          · obtain ⟨h3, h4⟩ := mapM_get h1
            refine ⟨cs, y, by rw [h3]; simp, fun j hj => ?_, h2⟩
            obtain ⟨z, h5, h6⟩ := h4 j j (List.getElem?_range hj)
            rw [h5, h6]
          · cases h1
        obtain ⟨cs0, x0, hl0, hc0, _⟩ := key 0 h0
        have h00 := hc0 0 hpos
        rw [Nat.zero_mul, show (a.add 0) = a from rfl, show (a.add 0) = a from rfl, List.getElem?_eq_getElem (by omega)] at h00
        have hsp : a.spot = none := by
          unfold World.cell? at h00
          split at h00
          · cases hs : a.spot with
            | none => rfl
            | some x => rw [hs] at h00; simp at h00
          · cases h00
        obtain ⟨b, o, sp⟩ := a
        simp only at hsp
        subst hsp
        refine ⟨b, o, rfl, World.block_lt_of_cell? w _ h00, fun i hi => ?_⟩
        obtain ⟨cs, x, hl, hc, hx⟩ := key i hi
        refine ⟨cs, x, hl, fun j hj => ?_, hx⟩
        have := hc j hj
        rwa [add_none, add_none] at this
      · cases hf
theorem trod_struct {t : TypeId} {fs : Array Field} (ht : P.underlying t = some (.struct fs)) {f : Nat} {cs : List Value} {x : DataW H × List MemPlace} (hf : DataW.trod enc P w 0 spare held f t cs = some x) :
    ∃ f', cs.length = P.cellsOf t ∧ ∀ g ∈ fs.toList, ∃ y, DataW.trod enc P w 0 spare held f' g.type ((cs.drop g.offset).take (P.cellsOf g.type)) = some y := by
  cases f with
  | zero => cases hf
  | succ f =>
    unfold DataW.trod at hf
    split at hf <;> rename_i heq <;> (try (rw [ht] at heq; simp only [Option.some.injEq, reduceCtorEq] at heq; done)) <;> (try (cases hf; done))
    rename_i fs' hd
    rw [ht] at heq
    simp only [Option.some.injEq, TypeDesc.struct.injEq] at heq
    subst heq
    split at hf
    · rename_i hlen
      obtain ⟨ys, hys, _⟩ := Option.map_eq_some_iff.1 hf
      exact ⟨f, hlen, fun g hg => mapM_mem hys g hg⟩
    · cases hf
theorem trod_int {k : IntKind} {t : TypeId} (he : P.underlying t = some (.int k)) {f : Nat} {cs : List Value} {x : DataW H × List MemPlace} (hx : DataW.trod enc P w 0 spare held f t cs = some x) : ∃ z, cs = [.int k z] ∧ (Lit.int k z).wf = true := by
  cases f with
  | zero => cases hx
  | succ f' =>
    unfold DataW.trod at hx
    split at hx <;> rename_i heq <;> (try (rw [he] at heq; simp only [Option.some.injEq, reduceCtorEq] at heq; done)) <;> (try (cases hx; done))
    rename_i k1 k2 z
    rw [he] at heq
    simp only [Option.some.injEq, TypeDesc.int.injEq] at heq
    subst heq
    split at hx
    · rename_i hw
      obtain ⟨rfl, hw⟩ := hw
      exact ⟨z, rfl, hw⟩
    · cases hx
/-- A slice of bytes, or of other numbers, by what lies there. -/
theorem nums_of {k : IntKind} {e : TypeId} {A : Option Addr} {n f' : Nat} (he : P.underlying e = some (.int k)) (h : 0 < n → ∃ b o, A = some ⟨b, o, none⟩ ∧ b < w.heap.size ∧ ∀ i, i < n → ∃ cs x, cs.length = 1 ∧ (∀ j, j < 1 → w.cell? ⟨b, o + i * 1 + j, none⟩ = cs[j]?) ∧ DataW.trod enc P w 0 spare held f' e cs = some x) :
    ∃ bs : List Int, bs.length = n ∧ (∀ x ∈ bs, (Lit.int k x).wf = true) ∧ Sl w w.heap.size A (iL k bs) := by
  by_cases hn : 0 < n
  · obtain ⟨b, o, rfl, hb, hc⟩ := h hn
    have hex : ∀ i, ∃ x : Int, i < n → (Lit.int k x).wf = true ∧ w.cell? ⟨b, o + i, none⟩ = some (.int k x) := by
      intro i
      by_cases hi : i < n
      · obtain ⟨cs, x, hl, hr, hx⟩ := hc i hi
        obtain ⟨c0, rfl⟩ : ∃ c0, cs = [c0] := by
          rcases cs with _ | ⟨c0, _ | ⟨c1, r⟩⟩ <;> first | exact ⟨_, rfl⟩ | (simp at hl)
        obtain ⟨z, hcz, hw⟩ := trod_int he hx
        have h0 := hr 0 (by decide)
        simp at hcz
        subst hcz
        exact ⟨z, fun _ => ⟨hw, by simpa using h0⟩⟩
      · exact ⟨0, fun h => absurd h hi⟩
    obtain ⟨q, hq⟩ := Classical.axiomOfChoice hex
    refine ⟨(List.range n).map q, by simp, ?_, ?_⟩
    · intro x hx
      obtain ⟨i, hi, rfl⟩ := List.mem_map.1 hx
      exact (hq i (List.mem_range.1 hi)).1
    · intro _
      refine ⟨b, o, rfl, hb, fun j u hu => ?_⟩
      have hj : j < n := by
        have := (List.getElem?_eq_some_iff.1 hu).1
        simpa [iL] using this
      have hu2 : some (Value.int k (q j)) = some u := by rw [← hu]; simp [iL, hj]
      rw [← hu2]
      exact (hq j hj).2
  · obtain rfl : n = 0 := by omega
    exact ⟨[], rfl, fun x hx => by simp at hx, Sl.nil⟩
theorem trod_nums {k : IntKind} {t e : TypeId} (ht : P.underlying t = some (.slice e)) (he : P.underlying e = some (.int k)) (hsz : P.cellsOf e = 1) {f : Nat} {cs : List Value} {x : DataW H × List MemPlace} (hf : DataW.trod enc P w 0 spare held f t cs = some x) :
    ∃ A n c bs, cs = [.slice A n c] ∧ n ≤ c ∧ c ≤ maxLen ∧ bs.length = n ∧ (∀ x ∈ bs, (Lit.int k x).wf = true) ∧ Sl w w.heap.size A (iL k bs) := by
  obtain ⟨A, n, c, f', rfl, h1, h2, h3⟩ := trod_slice ht hsz (by decide) hf
  obtain ⟨bs, h4, h5, h6⟩ := nums_of he h3
  exact ⟨A, n, c, bs, rfl, h1, h2, h4, h5, h6⟩
theorem trod_bool {t : TypeId} (he : P.underlying t = some .bool) {f : Nat} {cs : List Value} {x : DataW H × List MemPlace} (hx : DataW.trod enc P w 0 spare held f t cs = some x) : ∃ z, cs = [.bool z] := by
  cases f with
  | zero => cases hx
  | succ f' =>
    unfold DataW.trod at hx
    split at hx <;> rename_i heq <;> (try (rw [he] at heq; simp only [Option.some.injEq, reduceCtorEq] at heq; done)) <;> (try (cases hx; done))
    exact ⟨_, rfl⟩
end
end Go.Vc
end

section
/- Elements that are handed in. -/
set_option linter.unusedVariables false
set_option linter.unusedSimpArgs false
namespace Go.Proofs.Ytejpcmjokamdcaa
open Go.Vc Go.RowKit Go.ChangeShapes Go.WideShapes Go.ChangeAt
theorem wf_u8 {x : Int} (h : (Lit.int .u8 x).wf = true) : 0 ≤ x ∧ x < 256 := by
  have h0 : IntKind.u8.min = 0 := rfl
  have h1 : IntKind.u8.max = 255 := rfl
  simp [Lit.wf] at h
  omega
section
variable {H : Type} {enc : TypeId × Value → H} {P : Program} {w : World} {spare : Nat → Bool} {held : Bool}
/-- What an element's type is. -/
structure IsIe (P : Program) (e : TypeId) : Prop where
  fs : ∃ fs f0 f1 eb, P.underlying e = some (.struct fs) ∧ fs.toList = [f0, f1] ∧ f0.offset = 0 ∧ f1.offset = 1 ∧ P.cellsOf f0.type = 1 ∧ P.cellsOf f1.type = 1 ∧ P.underlying f0.type = some (.int .u8) ∧ P.underlying f1.type = some (.slice eb) ∧ P.underlying eb = some (.int .u8) ∧ P.cellsOf eb = 1 ∧ P.cellsOf e = 2
theorem trod_ie {e : TypeId} (he : IsIe P e) {f : Nat} {cs : List Value} {x : DataW H × List MemPlace} (hx : DataW.trod enc P w 0 spare held f e cs = some x) : ∃ y : IeV, cs = ieC y ∧ IeOk w 0 w.heap.size y ∧ IeB y := by
  obtain ⟨fs, f0, f1, eb, h1, h2, h3, h4, h5, h6, h7, h8, h9, h10, h11⟩ := he.fs
  obtain ⟨f', hl, hg⟩ := trod_struct h1 hx
  rw [h11] at hl
  obtain ⟨v0, v1, rfl⟩ : ∃ v0 v1, cs = [v0, v1] := by
    rcases cs with _ | ⟨v0, _ | ⟨v1, _ | ⟨v2, r⟩⟩⟩ <;> first | exact ⟨_, _, rfl⟩ | (simp at hl)
  obtain ⟨y0, hy0⟩ := hg f0 (by rw [h2]; simp)
  obtain ⟨y1, hy1⟩ := hg f1 (by rw [h2]; simp)
  rw [h3, h5] at hy0
  rw [h4, h6] at hy1
  obtain ⟨z, hz, hzw⟩ := trod_int h7 hy0
  obtain ⟨A, n, c, bs, hb, hnc, _, hbn, hbw, hsl⟩ := trod_nums h8 h9 h10 hy1
  simp at hz hb
  subst hz; subst hb
  exact ⟨⟨z, A, n, c, bs⟩, rfl, ⟨hbn, hnc, hsl.sl2⟩, ⟨wf_u8 hzw, fun x hx => wf_u8 (hbw x hx)⟩⟩
theorem ies_of {e : TypeId} {A : Option Addr} {n f' : Nat} (he : IsIe P e) (h : 0 < n → ∃ b o, A = some ⟨b, o, none⟩ ∧ b < w.heap.size ∧ ∀ i, i < n → ∃ cs x, cs.length = 2 ∧ (∀ j, j < 2 → w.cell? ⟨b, o + i * 2 + j, none⟩ = cs[j]?) ∧ DataW.trod enc P w 0 spare held f' e cs = some x) :
    ∃ l : List IeV, l.length = n ∧ Ies w 0 w.heap.size A l ∧ ∀ x ∈ l, IeB x := by
  by_cases hn : 0 < n
  · obtain ⟨b, o, rfl, hb, hc⟩ := h hn
    have hex : ∀ i, ∃ y : IeV, i < n → (w.cell? ⟨b, o + i * 2, none⟩ = some (.int .u8 y.id) ∧ w.cell? ⟨b, o + i * 2 + 1, none⟩ = some (.slice y.A y.n y.c)) ∧ IeOk w 0 w.heap.size y ∧ IeB y := by
      intro i
      by_cases hi : i < n
      · obtain ⟨cs, x, hl, hr, hx⟩ := hc i hi
        obtain ⟨y, rfl, h1, h2⟩ := trod_ie he hx
        exact ⟨y, fun _ => ⟨⟨hr 0 (by decide), hr 1 (by decide)⟩, h1, h2⟩⟩
      · exact ⟨⟨0, none, 0, 0, []⟩, fun h => absurd h hi⟩
    obtain ⟨q, hq⟩ := Classical.axiomOfChoice hex
    have hg : ∀ i, i < n → ((List.range n).map q)[i]? = some (q i) := fun i hi => by simp [hi]
    refine ⟨(List.range n).map q, by simp, ⟨fun _ => ⟨b, o, rfl, Nat.zero_le _, hb, fun j u hu => ?_⟩, ?_⟩, ?_⟩
    · have hj := (List.getElem?_eq_some_iff.1 hu).1
      rw [ieL_len] at hj
      simp only [List.length_map, List.length_range] at hj
      obtain ⟨i, hi, ej⟩ : ∃ i, i < n ∧ (j = i * 2 ∨ j = i * 2 + 1) := ⟨j / 2, by omega, by omega⟩
      have h2 := ieL_get (hg i hi)
      have h3 := (hq i hi).1
      rcases ej with rfl | rfl
      · rw [← hu, h2.1]; exact h3.1
      · rw [← hu, h2.2]; exact h3.2
    · intro x hx
      obtain ⟨i, hi, rfl⟩ := List.mem_map.1 hx
      exact (hq i (List.mem_range.1 hi)).2.1
    · intro x hx
      obtain ⟨i, hi, rfl⟩ := List.mem_map.1 hx
      exact (hq i (List.mem_range.1 hi)).2.2
  · obtain rfl : n = 0 := by omega
    exact ⟨[], rfl, Ies.nil, fun x hx => by simp at hx⟩
theorem open_ies {t e : TypeId} {v : Value} {d : DataW H} {ps : List MemPlace} (ht : P.underlying t = some (.slice e)) (he : IsIe P e) (h : DataW.Trod enc P w 0 spare held t v d ps) {rr : Reach} {b0 : Nat} (hval : Value.okWide P w rr b0 t v) :
    ∃ A n c l, v = .slice A n c ∧ n ≤ c ∧ c ≤ maxLen ∧ l.length = n ∧ Ies w 0 w.heap.size A l ∧ ∀ x ∈ l, IeB x := by
  obtain ⟨f, hf⟩ := h
  obtain ⟨A0, n0, c0, rfl⟩ := okWide_slice ht hval
  obtain ⟨A, n, c, f', hv, h1, h2, h3⟩ := trod_slice ht he.fs.choose_spec.choose_spec.choose_spec.choose_spec.2.2.2.2.2.2.2.2.2.2 (by decide) hf
  have hv2 : (Value.slice A0 n0 c0).cells.toList = [.slice A0 n0 c0] := rfl
  rw [hv2] at hv
  simp at hv
  obtain ⟨rfl, rfl, rfl⟩ := hv
  obtain ⟨l, h4, h5, h6⟩ := ies_of he h3
  exact ⟨A0, n0, c0, l, rfl, h1, h2, h4, h5, h6⟩
/-- A list of bytes that is handed in. -/
theorem open_txt {t e : TypeId} {v : Value} {d : DataW H} {ps : List MemPlace} (ht : P.underlying t = some (.slice e)) (he : P.underlying e = some (.int .u8)) (hsz : P.cellsOf e = 1) (h : DataW.Trod enc P w 0 spare held t v d ps) {rr : Reach} {b0 : Nat} (hval : Value.okWide P w rr b0 t v) :
    ∃ A n c bs, v = .slice A n c ∧ n ≤ c ∧ c ≤ maxLen ∧ bs.length = n ∧ Bytes bs ∧ Sl w w.heap.size A (iL .u8 bs) := by
  obtain ⟨f, hf⟩ := h
  obtain ⟨A0, n0, c0, rfl⟩ := okWide_slice ht hval
  obtain ⟨A, n, c, bs, hv, h1, h2, h3, h4, h5⟩ := trod_nums ht he hsz hf
  have hv2 : (Value.slice A0 n0 c0).cells.toList = [.slice A0 n0 c0] := rfl
  rw [hv2] at hv
  simp at hv
  obtain ⟨rfl, rfl, rfl⟩ := hv
  exact ⟨A0, n0, c0, bs, rfl, h1, h2, h3, fun x hx => wf_u8 (h4 x hx), h5⟩
/-- An element by value. -/
theorem open_ie {e : TypeId} {v : Value} {d : DataW H} {ps : List MemPlace} (he : IsIe P e) (h : DataW.Trod enc P w 0 spare held e v d ps) {rr : Reach} {b0 : Nat} (hag : isAggB P e = true) (hval : Value.okWide P w rr b0 e v) :
    ∃ y : IeV, v = .agg #[.int .u8 y.id, .slice y.A y.n y.c] ∧ IeOk w 0 w.heap.size y ∧ IeB y := by
  obtain ⟨f, hf⟩ := h
  have hv : ∃ cs, v = .agg cs := by
    unfold isAggB at hag
    unfold Value.okWide at hval
    cases hu : P.underlying e with
    | none => rw [hu] at hag; cases hag
    | some u =>
      rw [hu] at hag hval
      cases u <;> simp at hag
      · obtain ⟨cs, rfl, _⟩ := hval; exact ⟨cs, rfl⟩
      · obtain ⟨cs, rfl, _⟩ := hval; exact ⟨cs, rfl⟩
  obtain ⟨cs, rfl⟩ := hv
  obtain ⟨y, hy, h1, h2⟩ := trod_ie he hf
  refine ⟨y, ?_, h1, h2⟩
  have : cs.toList = ieC y := hy
  rw [← Array.toArray_toList (xs := cs), this]; rfl
end
end Go.Proofs.Ytejpcmjokamdcaa
end

section
/- Messages that are handed in. -/
set_option linter.unusedVariables false
set_option linter.unusedSimpArgs false
namespace Go.Proofs.Ytejpcmjokamdcaa
open Go.Vc Go.RowKit Go.ChangeShapes Go.WideShapes Go.ChangeAt
section
variable {H : Type} {enc : TypeId × Value → H} {P : Program} {w : World} {spare : Nat → Bool} {held : Bool}
structure IsMsg (P : Program) (m : TypeId) : Prop where
  fs : ∃ fs f0 f1 f2 f3 e, P.underlying m = some (.struct fs) ∧ fs.toList = [f0, f1, f2, f3] ∧ f0.offset = 0 ∧ f1.offset = 1 ∧ f2.offset = 2 ∧ f3.offset = 3 ∧ P.cellsOf f0.type = 1 ∧ P.cellsOf f1.type = 1 ∧ P.cellsOf f2.type = 1 ∧ P.cellsOf f3.type = 1 ∧
    P.underlying f0.type = some (.int .i64) ∧ P.underlying f1.type = some .bool ∧ P.underlying f2.type = some (.int .i64) ∧ P.underlying f3.type = some (.slice e) ∧ P.cellsOf e = 2 ∧ IsIe P e ∧ P.cellsOf m = 4
theorem open_msg {m : TypeId} {v : Value} {d : DataW H} {ps : List MemPlace} (hm : IsMsg P m) (h : DataW.Trod enc P w 0 spare held m v d ps) {rr : Reach} {b0 : Nat} (hag : isAggB P m = true) (hval : Value.okWide P w rr b0 m v) :
    ∃ r bk k A n c l, v = .agg #[.int .i64 r, .bool bk, .int .i64 k, .slice A n c] ∧ n ≤ c ∧ c ≤ maxLen ∧ l.length = n ∧ Ies w 0 w.heap.size A l ∧ ∀ x ∈ l, IeB x := by
  obtain ⟨f, hf⟩ := h
  have hv : ∃ cs, v = .agg cs := by
    unfold isAggB at hag
    unfold Value.okWide at hval
    cases hu : P.underlying m with
    | none => rw [hu] at hag; cases hag
    | some u =>
      rw [hu] at hag hval
      cases u <;> simp at hag
      · obtain ⟨cs, rfl, _⟩ := hval; exact ⟨cs, rfl⟩
      · obtain ⟨cs, rfl, _⟩ := hval; exact ⟨cs, rfl⟩
  obtain ⟨cs, rfl⟩ := hv
  obtain ⟨fs, f0, f1, f2, f3, e, h1, h2, o0, o1, o2, o3, c0, c1, c2, c3, u0, u1, u2, u3, ce, he, cm⟩ := hm.fs
  obtain ⟨f', hl, hg⟩ := trod_struct h1 hf
  rw [cm] at hl
  have hcs : (Value.agg cs).cells.toList = cs.toList := rfl
  rw [hcs] at hl hg
  obtain ⟨L, hL⟩ : ∃ L, L = cs.toList := ⟨_, rfl⟩
  rw [← hL] at hl hg
  obtain ⟨v0, v1, v2, v3, rfl⟩ : ∃ v0 v1 v2 v3, L = [v0, v1, v2, v3] := by
    clear hL hg
    rcases L with _ | ⟨v0, _ | ⟨v1, _ | ⟨v2, _ | ⟨v3, _ | ⟨v4, q⟩⟩⟩⟩⟩ <;> first | exact ⟨_, _, _, _, rfl⟩ | (simp at hl)
  obtain ⟨y0, g0⟩ := hg f0 (by rw [h2]; simp)
  obtain ⟨y1, g1⟩ := hg f1 (by rw [h2]; simp)
  obtain ⟨y2, g2⟩ := hg f2 (by rw [h2]; simp)
  obtain ⟨y3, g3⟩ := hg f3 (by rw [h2]; simp)
  rw [o0, c0] at g0
  rw [o1, c1] at g1
  rw [o2, c2] at g2
  rw [o3, c3] at g3
  obtain ⟨r, hr, _⟩ := trod_int u0 g0
  obtain ⟨bk, hb⟩ := trod_bool u1 g1
  obtain ⟨k, hk, _⟩ := trod_int u2 g2
  obtain ⟨A, n, c, f9, hs, q1, q2, q3⟩ := trod_slice u3 ce (by decide) g3
  obtain ⟨l, q4, q5, q6⟩ := ies_of he q3
  simp at hr hb hk hs
  subst hr; subst hb; subst hk; subst hs
  refine ⟨r, bk, k, A, n, c, l, ?_, q1, q2, q4, q5, q6⟩
  rw [← Array.toArray_toList (xs := cs), ← hL]
end
end Go.Proofs.Ytejpcmjokamdcaa
end
