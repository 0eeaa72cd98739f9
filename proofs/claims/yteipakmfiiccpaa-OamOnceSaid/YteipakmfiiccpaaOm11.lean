/- Layer 14 in plain Lean: what is packed is unpacked; a bit turned over is told. -/
import Derived.Test.YteipakmfiiccpaaOm9
set_option linter.unusedVariables false
set_option linter.unusedSimpArgs false
namespace Go.Proofs.Yteipakmfiiccpaa
open Go.Vc

/-! ### 1. Sealing -/
theorem getD_set' (xs : List Int) (j m : Nat) (v : Int) : (xs.set j v).getD m 0 = if m = j ∧ j < xs.length then v else xs.getD m 0 := by
  by_cases hj : j < xs.length
  · rw [getD_set _ _ _ _ hj]; simp [hj]
  · rw [List.set_eq_of_length_le (by omega), if_neg (by omega)]
theorem seal_get {bs : List Int} (j : Nat) (hj : j < 46) : (sealL bs).getD j 0 = bs.getD j 0 := by
  unfold sealL
  rw [getD_set', getD_set', if_neg (by omega), if_neg (by omega)]
def topB (a q : Int) : Int := bOr .u8 (bAndNot .u8 a 3) q
theorem topB_fin : ∀ (a : Fin 256) (q : Fin 4), 0 ≤ topB ((a.val : Nat) : Int) ((q.val : Nat) : Int) ∧ topB ((a.val : Nat) : Int) ((q.val : Nat) : Int) < 256 ∧ (bits8 (topB ((a.val : Nat) : Int) ((q.val : Nat) : Int))).take 6 = (bits8 ((a.val : Nat) : Int)).take 6 ∧ (∀ q' : Fin 4, topB (topB ((a.val : Nat) : Int) ((q.val : Nat) : Int)) ((q'.val : Nat) : Int) = topB ((a.val : Nat) : Int) ((q'.val : Nat) : Int)) ∧ topB ((a.val : Nat) : Int) ((q.val : Nat) : Int) = ((a.val / 4 * 4 + q.val : Nat) : Int) := by decide +kernel
theorem seal_form {bs : List Int} (hb : Bytes bs) (hn : bs.length = 48) : sealL bs = (bs.set 46 (topB (bs.getD 46 0) ((crcN bs / 256 : Nat) : Int))).set 47 ((crcN bs % 256 : Nat) : Int) := by
  have hc := crcN_lt bs
  unfold sealL topB
  rw [tenB_crc hb hn, show (((crcN bs : Nat) : Int).fdiv (2 ^ 8)) = ((crcN bs / 256 : Nat) : Int) from fdiv_nat _ _, wrap_u8, wrap_u8, Nat.mod_eq_of_lt (show crcN bs / 256 < 2 ^ 8 by omega)]
theorem seal_bytes {bs : List Int} (hb : Bytes bs) (hn : bs.length = 48) : Bytes (sealL bs) := by
  rw [seal_form hb hn]
  have hc := crcN_lt bs
  obtain ⟨a, ha⟩ := byte_nat (hb.get 46)
  intro x hx
  rcases List.mem_or_eq_of_mem_set hx with hx | rfl
  · rcases List.mem_or_eq_of_mem_set hx with hx | rfl
    · exact hb x hx
    · rw [ha]
      have := topB_fin a ⟨crcN bs / 256, by omega⟩
      exact ⟨this.1, this.2.1⟩
  · omega
/-- The bits that are checked. -/
theorem crc_congr {xs ys : List Int} (hx : xs.length = 48) (hy : ys.length = 48) (h : ∀ j, j < 46 → xs.getD j 0 = ys.getD j 0) (h6 : (bits8 (xs.getD 46 0)).take 6 = (bits8 (ys.getD 46 0)).take 6) : (bitsL xs).take 374 = (bitsL ys).take 374 := by
  apply List.ext_getElem?
  intro q
  rw [List.getElem?_take, List.getElem?_take]
  by_cases hq : q < 374
  · rw [if_pos hq, if_pos hq]
    obtain ⟨j, i, hi, hj, rfl⟩ : ∃ j i, i < 8 ∧ j < 47 ∧ q = 8 * j + i := ⟨q / 8, q % 8, Nat.mod_lt _ (by omega), by omega, by omega⟩
    rw [show (bitsL xs) = xs.flatMap bits8 from rfl, show (bitsL ys) = ys.flatMap bits8 from rfl, flat8_get bits8 bits8_len xs j i (by omega) hi, flat8_get bits8 bits8_len ys j i (by omega) hi]
    by_cases h46 : j < 46
    · rw [h j h46]
    · obtain rfl : j = 46 := by omega
      have hi6 : i < 6 := by omega
      have := congrArg (fun l : List Bool => l[i]?) h6
      simpa [List.getElem?_take, hi6] using this
  · rw [if_neg hq, if_neg hq]
theorem crc_seal {bs : List Int} (hb : Bytes bs) (hn : bs.length = 48) : crcN (sealL bs) = crcN bs := by
  unfold crcN
  congr 1
  refine crc_congr (by rw [sealL_len, hn]) hn (fun j hj => seal_get j hj) ?_
  have hc := crcN_lt bs
  obtain ⟨a, ha⟩ := byte_nat (hb.get 46)
  rw [seal_form hb hn, getD_set', if_neg (by omega), getD_set', if_pos ⟨rfl, by omega⟩, ha]
  exact (topB_fin a ⟨crcN bs / 256, by omega⟩).2.2.1
theorem seal_46 {bs : List Int} (hb : Bytes bs) (hn : bs.length = 48) : (sealL bs).getD 46 0 = topB (bs.getD 46 0) ((crcN bs / 256 : Nat) : Int) := by
  rw [seal_form hb hn, getD_set', if_neg (by omega), getD_set', if_pos ⟨rfl, by omega⟩]
theorem seal_47 {bs : List Int} (hb : Bytes bs) (hn : bs.length = 48) : (sealL bs).getD 47 0 = ((crcN bs % 256 : Nat) : Int) := by
  rw [seal_form hb hn, getD_set', if_pos ⟨rfl, by simp; omega⟩]
theorem set_getD {xs : List Int} {j : Nat} (hj : j < xs.length) : xs.set j (xs.getD j 0) = xs := by
  rw [List.getD, List.getElem?_eq_getElem hj]; simp
theorem seal_seal {bs : List Int} (hb : Bytes bs) (hn : bs.length = 48) : sealL (sealL bs) = sealL bs := by
  have hc := crcN_lt bs
  obtain ⟨a, ha⟩ := byte_nat (hb.get 46)
  have hl : (sealL bs).length = 48 := by rw [sealL_len, hn]
  rw [seal_form (seal_bytes hb hn) hl, crc_seal hb hn]
  have e46 : topB ((sealL bs).getD 46 0) ((crcN bs / 256 : Nat) : Int) = (sealL bs).getD 46 0 := by
    rw [seal_46 hb hn, ha]
    exact (topB_fin a ⟨crcN bs / 256, by omega⟩).2.2.2.1 ⟨crcN bs / 256, by omega⟩
  rw [e46, set_getD (by omega)]
  have := set_getD (xs := sealL bs) (j := 47) (by omega)
  rwa [seal_47 hb hn] at this
/-- Sealed: the last ten bits are the check. -/
theorem sealed_crc {bs : List Int} (hb : Bytes bs) (hn : bs.length = 48) (h : sealL bs = bs) : ∃ a b : Fin 256, bs.getD 46 0 = ((a.val : Nat) : Int) ∧ bs.getD 47 0 = ((b.val : Nat) : Int) ∧ crcN bs = a.val % 4 * 256 + b.val := by
  have hc := crcN_lt bs
  obtain ⟨a, ha⟩ := byte_nat (hb.get 46)
  obtain ⟨b, hb'⟩ := byte_nat (hb.get 47)
  refine ⟨a, b, ha, hb', ?_⟩
  have h46 := seal_46 hb hn
  have h47 := seal_47 hb hn
  rw [h, ha, (topB_fin a ⟨crcN bs / 256, by omega⟩).2.2.2.2] at h46
  rw [h, hb'] at h47
  have := a.isLt
  simp only at h46
  omega

/-! ### 2. What is packed is unpacked -/
theorem omL_ext {x y : Om} (hk : x.k = y.k) (hd : x.d = y.d) (ha : x.a = y.a) (ht : x.tg = y.tg) (hp : lp x.p = lp y.p) (hs : lp x.s = lp y.s) : omL x = omL y := by
  simp only [lp, List.range, List.range.loop, List.map_cons, List.map_nil, List.cons.injEq, and_true] at hp hs
  simp only [omL, hk, hd, ha, ht, hp, hs]
theorem lp_ext {p q : Nat → Int} (h : ∀ i, i < 16 → p i = q i) : lp p = lp q := by
  unfold lp
  exact List.map_congr_left fun i hi => h i (List.mem_range.1 hi)
theorem hasL_congr {x y : Om} (h : omL x = omL y) : hasL x = hasL y := by
  obtain ⟨h1, h2, h3, h4, h5, h6⟩ := omL_inj h
  unfold hasL
  rw [h1, h2, h3, h4, h5, h6]
theorem rightO_congr {x y : Om} (h : omL x = omL y) : rightO x = rightO y := by
  obtain ⟨h1, h2, h3, h4, h5, h6⟩ := omL_inj h
  have ho : omL (onlyO x) = omL (onlyO y) := by
    unfold onlyO
    rw [h1]
    split
    · exact omL_ext rfl h2 rfl rfl h5 rfl
    · split
      · exact omL_ext rfl rfl h3 h4 h5 h6
      · rfl
  unfold rightO kindO omEq
  rw [h1, ho, h]
theorem packV_congr {x y : Om} (h : omL x = omL y) : packV x = packV y := by
  unfold packV preL preI
  rw [rightO_congr h, hasL_congr h, (omL_inj h).1]
theorem packE_congr {x y : Om} (h : omL x = omL y) : packE x = packE y := by
  unfold packE
  rw [rightO_congr h]
theorem pack_get {o : Om} (h : rightO o = true) (j : Nat) (hj : j < 46) : (packV o).getD j 0 = (preL o).getD j 0 := by rw [packV_yes h, seal_get j hj]
theorem pre_0 (o : Om) : (preL o).getD 0 0 = IntKind.wrap .u8 (16 + IntKind.wrap .u8 o.k) := rfl
theorem pre_succ (o : Om) (j : Nat) (hj : j < (hasL o).length) : (preL o).getD (j + 1) 0 = (hasL o).getD j 0 := by
  unfold preL preI
  rw [List.getD_cons_succ, List.getD, List.getD, List.getElem?_append_left hj]
theorem lp_get (p : Nat → Int) (i : Nat) (hi : i < 16) : (lp p).getD i 0 = p i := by
  unfold lp
  rw [List.getD, List.getElem?_map, List.getElem?_range hi]; rfl
theorem kOf_pack {o : Om} (h : rightO o = true) : kOf (packV o) = o.k := by
  unfold kOf
  rw [pack_get h 0 (by omega), pre_0]
  rcases right_kind h with h | h | h | h <;> rw [h] <;> decide +kernel
theorem tagB_get {t : Int} (h : 0 ≤ t ∧ t < 4294967296) : ∃ a b c d : Fin 256, tagB t = [((a.val : Nat) : Int), ((b.val : Nat) : Int), ((c.val : Nat) : Int), ((d.val : Nat) : Int)] ∧ t = ((((a.val * 256 + b.val) * 256 + c.val) * 256 + d.val : Nat) : Int) := by
  obtain ⟨n, rfl⟩ : ∃ n : Nat, t = (n : Int) := ⟨t.toNat, by omega⟩
  refine ⟨⟨n / 2 ^ 24 % 2 ^ 8, Nat.mod_lt _ (by decide)⟩, ⟨n / 2 ^ 16 % 2 ^ 8, Nat.mod_lt _ (by decide)⟩, ⟨n / 2 ^ 8 % 2 ^ 8, Nat.mod_lt _ (by decide)⟩, ⟨n % 2 ^ 8, Nat.mod_lt _ (by decide)⟩, ?_, ?_⟩
  · unfold tagB
    rw [fdiv_nat, fdiv_nat, fdiv_nat, fdiv_nat, wrap_u8, wrap_u8, wrap_u8, wrap_u8, Nat.pow_zero, Nat.div_one]
  · exact congrArg (fun n : Nat => (n : Int)) (by simp only; omega)
theorem unpO_pack {o : Om} (ho : OmOk o) (h : rightO o = true) : omL (unpO (packV o)) = omL o := by
  have hk := kOf_pack h
  rcases right_kind h with h0 | h0 | h0 | h0
  · obtain ⟨r1, r2, r3⟩ := right_01 h (.inl h0)
    rw [unpO_01 (by omega)]
    refine omL_ext hk ?_ r1.symm r2.symm (lp_ext fun i hi => ?_) r3.symm
    · rw [pack_get h 1 (by omega), pre_succ o 0 (by rw [has_len01 (.inl h0)]; omega), has_01 (.inl h0)]; rfl
    · show (packV o).getD (2 + i) 0 = _
      rw [pack_get h _ (by omega), show 2 + i = (1 + i) + 1 by omega, pre_succ o _ (by rw [has_len01 (.inl h0)]; omega), has_01 (.inl h0), Nat.add_comm 1 i, List.getD_cons_succ, lp_get _ _ hi]
  · obtain ⟨r1, r2, r3⟩ := right_01 h (.inr h0)
    rw [unpO_01 (by omega)]
    refine omL_ext hk ?_ r1.symm r2.symm (lp_ext fun i hi => ?_) r3.symm
    · rw [pack_get h 1 (by omega), pre_succ o 0 (by rw [has_len01 (.inr h0)]; omega), has_01 (.inr h0)]; rfl
    · show (packV o).getD (2 + i) 0 = _
      rw [pack_get h _ (by omega), show 2 + i = (1 + i) + 1 by omega, pre_succ o _ (by rw [has_len01 (.inr h0)]; omega), has_01 (.inr h0), Nat.add_comm 1 i, List.getD_cons_succ, lp_get _ _ hi]
  · obtain ⟨a, b, c, d, ht, htg⟩ := tagB_get ho.tg
    have hl := has_len8 h0
    have hh : hasL o = (if o.a = true then 1 else 0) :: ((a.val : Nat) : Int) :: ((b.val : Nat) : Int) :: ((c.val : Nat) : Int) :: ((d.val : Nat) : Int) :: (lp o.p ++ lp o.s) := by rw [has_8 h0, ht]; rfl
    have hg : ∀ j, j < 37 → (packV o).getD (j + 1) 0 = (hasL o).getD j 0 := fun j hj => by rw [pack_get h _ (by omega), pre_succ o j (by omega)]
    rw [unpO_8 (by omega)]
    refine omL_ext hk (right_8 h h0).symm ?_ ?_ (lp_ext fun i hi => ?_) (lp_ext fun i hi => ?_)
    · show ((packV o).getD 1 0 == 1) = o.a
      rw [hg 0 (by omega), hh]
      cases o.a <;> rfl
    · show tagN (packV o) = o.tg
      rw [tagN_nat a b c d (by rw [hg 1 (by omega), hh]; rfl) (by rw [hg 2 (by omega), hh]; rfl) (by rw [hg 3 (by omega), hh]; rfl) (by rw [hg 4 (by omega), hh]; rfl), htg]
    · show (packV o).getD (6 + i) 0 = _
      rw [show 6 + i = (i + 5) + 1 by omega, hg _ (by omega), hh]
      simp only [List.getD_cons_succ]
      rw [List.getD, List.getElem?_append_left (by rw [lp_len]; exact hi), ← List.getD, lp_get _ _ hi]
    · show (packV o).getD (22 + i) 0 = _
      rw [show 22 + i = (i + 16 + 5) + 1 by omega, hg _ (by omega), hh]
      simp only [List.getD_cons_succ]
      rw [List.getD, List.getElem?_append_right (by rw [lp_len]; omega), lp_len, Nat.add_sub_cancel, ← List.getD, lp_get _ _ hi]
  · obtain ⟨r1, r2, r3, r4, r5⟩ := right_4 h h0
    rw [unpO_4 (by omega)]
    exact omL_ext hk r1.symm r2.symm r3.symm r4.symm r5.symm
theorem pack_bytes {o : Om} (ho : OmOk o) : Bytes (packV o) := by
  unfold packV
  split
  · exact seal_bytes (pre_bytes ho) (preL_len o)
  · intro x hx; rw [(List.mem_replicate.1 hx).2]; omega
theorem unp_back {o : Om} (ho : OmOk o) (h : rightO o = true) : unpE (packV o) = 0 ∧ omL (unpV (packV o)) = omL o := by
  have hu := unpO_pack ho h
  have hs : sealL (packV o) = packV o := by rw [packV_yes h, seal_seal (pre_bytes ho) (preL_len o)]
  obtain ⟨e1, e2⟩ := unp_0 (bs := packV o) rfl hs (by rw [kOf_pack h]; exact right_kind h) (by rw [packE_congr hu, packE_yes h]) (packV_congr hu)
  exact ⟨e1, by rw [e2]; exact hu⟩
/-- What is unpacked is packed to what it was. -/
theorem unp_ok_pack {bs : List Int} (h : unpE bs = 0) : packE (unpV bs) = 0 ∧ packV (unpV bs) = bs ∧ rightO (unpV bs) = true := by
  have hv : unpV bs = unpO bs := by unfold unpV; rw [if_pos h]
  rw [hv]
  unfold unpE at h
  split at h
  · omega
  · split at h
    · omega
    · split at h
      · omega
      · rename_i h1 h2 h3
        have h4 : packE (unpO bs) = 0 ∧ packV (unpO bs) = bs := by
          constructor
          · exact Decidable.byContradiction fun e => h3 (.inl e)
          · exact Decidable.byContradiction fun e => h3 (.inr e)
        refine ⟨h4.1, h4.2, ?_⟩
        cases hr : rightO (unpO bs)
        · rw [packE_no hr] at h4; omega
        · rfl
theorem unp_err {bs : List Int} (h : unpE bs ≠ 0) : unpV bs = zeroO := by unfold unpV; rw [if_neg h]
theorem pack_inj {a b : Om} (ha : OmOk a) (hb : OmOk b) (h1 : rightO a = true) (h2 : rightO b = true) : packV a = packV b ↔ omL a = omL b := by
  constructor
  · intro h
    rw [← unpO_pack ha h1, ← unpO_pack hb h2, h]
  · exact packV_congr
end Go.Proofs.Yteipakmfiiccpaa
