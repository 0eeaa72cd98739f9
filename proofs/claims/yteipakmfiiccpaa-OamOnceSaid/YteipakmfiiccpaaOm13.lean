/- Layer 14 in plain Lean: what the laws say of it. -/
import Derived.Test.YteipakmfiiccpaaOm12
set_option linter.unusedVariables false
set_option linter.unusedSimpArgs false
namespace Go.Proofs.Yteipakmfiiccpaa
open Go.Vc
theorem pack_sealed {o : Om} (ho : OmOk o) (h : rightO o = true) : sealL (packV o) = packV o := by rw [packV_yes h, seal_seal (pre_bytes ho) (preL_len o)]
theorem flip_4 {o : Om} (ho : OmOk o) (h : rightO o = true) (t : Nat) : unpE (flipL (packV o) (t % 384)) = 4 ∧ omL (unpV (flipL (packV o) (t % 384))) = omL zeroO := by
  obtain ⟨e1, e2⟩ := unp_4 (flip_told (pack_bytes ho) (packV_len o) (pack_sealed ho h) (t % 384) (Nat.mod_lt _ (by decide)))
  exact ⟨e1, by rw [e2]⟩
theorem zero_eq {bs : List Int} (h : unpE bs ≠ 0) : omEq (unpV bs) ⟨0, 0, false, 0, zp, zp⟩ = true := (omEq_iff _ _).2 (by rw [unp_err h]; rfl)
theorem apart_eq {a b : Om} (ha : OmOk a) (hb : OmOk b) (h1 : rightO a = true) (h2 : rightO b = true) : ((packV a == packV b) == omEq a b) = true := by
  have h := pack_inj ha hb h1 h2
  have h' := omEq_iff a b
  rw [beq_iff_eq]
  cases e : omEq a b
  · rw [beq_eq_false_iff_ne]
    intro e2
    rw [h'.2 (h.1 e2)] at e
    cases e
  · rw [beq_iff_eq]
    exact h.2 (h'.1 e)
/-! ### Kinds -/
def kindF (f : Int) : Bool := f == 16 || (f == 17 || (f == 20 || f == 24))
theorem kind_last {f : Int} (h1 : f ≠ 16) (h2 : f ≠ 17) (h3 : f ≠ 20) : kindF f = (f == 24) := by
  unfold kindF
  rw [beq_eq_false_iff_ne.2 h1, beq_eq_false_iff_ne.2 h2, beq_eq_false_iff_ne.2 h3]; rfl
def reL (o : Om) (f : Int) : List Int := (packV o).set 0 f
theorem reL_len (o : Om) (f : Int) : (reL o f).length = 48 := by rw [reL, List.length_set, packV_len]
theorem reL_bytes {o : Om} {f : Int} (ho : OmOk o) (hf : 0 ≤ f ∧ f < 256) : Bytes (reL o f) := by
  intro x hx
  rcases List.mem_or_eq_of_mem_set hx with hx | rfl
  · exact pack_bytes ho x hx
  · exact hf
theorem kOf_re {o : Om} {f : Int} (ho : OmOk o) (hf : 0 ≤ f ∧ f < 256) : kOf (sealL (reL o f)) = f - 16 := by
  unfold kOf
  rw [seal_get 0 (by omega), reL, getD_set', if_pos ⟨rfl, by rw [packV_len]; omega⟩, wrap_i64 f (by omega) (by omega), wrap_i64 _ (by omega) (by omega)]
theorem kind_12 {o : Om} {f : Int} (ho : OmOk o) (hf : 0 ≤ f ∧ f < 256) : (unpE (sealL (reL o f)) == 12) = !kindF f := by
  have hs := seal_seal (reL_bytes ho hf) (reL_len o f)
  have hk := kOf_re ho hf
  cases h : kindF f
  · have : ¬ kindB (kOf (sealL (reL o f))) := by
      rw [hk]
      unfold kindB
      unfold kindF at h
      simp only [Bool.or_eq_false_iff, beq_eq_false_iff_ne] at h
      omega
    rw [(unp_12 hs this).1]; rfl
  · have hkb : kindB (kOf (sealL (reL o f))) := by
      rw [hk]
      unfold kindB
      unfold kindF at h
      simp only [Bool.or_eq_true, beq_iff_eq] at h
      omega
    unfold unpE
    rw [if_neg (by simp [hs]), if_neg (by simp [hkb])]
    split <;> rfl
theorem kind_k {o : Om} {f : Int} (ho : OmOk o) (hf : 0 ≤ f ∧ f < 256) (h : unpE (sealL (reL o f)) = 0) : (unpV (sealL (reL o f))).k = IntKind.wrap .i64 (IntKind.wrap .i64 f - 16) := by
  unfold unpV
  rw [if_pos h, wrap_i64 f (by omega) (by omega), wrap_i64 _ (by omega) (by omega), ← kOf_re ho hf]
  unfold unpO
  split
  · rfl
  · split <;> rfl
/-! ### Replies -/
theorem replyV_yes {o : Om} {here : Nat → Int} (h : replyB o here = true) : replyV o here = ⟨o.k, o.d, false, o.tg, here, o.s⟩ := by unfold replyV; rw [if_pos h]
theorem replyV_no {o : Om} {here : Nat → Int} (h : replyB o here = false) : replyV o here = zeroO := by unfold replyV; rw [if_neg (by rw [h]; decide)]
theorem reply_k {o : Om} {here : Nat → Int} (h : replyB o here = true) : o.k = 8 ∧ o.a = true := by
  unfold replyB at h
  simp only [Bool.and_eq_true, beq_iff_eq] at h
  exact ⟨h.1, h.2.1⟩
theorem reply_again (o : Om) (here there : Nat → Int) : replyB ⟨o.k, o.d, false, o.tg, here, o.s⟩ there = false := by
  unfold replyB
  simp
theorem right_reply {o : Om} (h : o.k = 8) (a : Bool) (p : Nat → Int) : rightO ⟨o.k, o.d, a, o.tg, p, o.s⟩ = rightO o := by
  have key : ∀ x : Om, x.k = 8 → (rightO x = true ↔ x.d = 0) := by
    intro x hx
    constructor
    · exact fun hr => right_8 hr hx
    · intro hd
      unfold rightO kindO
      rw [Bool.and_eq_true, decide_eq_true_eq]
      refine ⟨by omega, (omEq_iff _ _).2 ?_⟩
      unfold onlyO
      rw [if_neg (by omega), if_pos hx]
      exact omL_ext rfl hd.symm rfl rfl rfl rfl
  have h1 := key ⟨o.k, o.d, a, o.tg, p, o.s⟩ h
  have h2 := key o h
  cases e1 : rightO ⟨o.k, o.d, a, o.tg, p, o.s⟩ <;> cases e2 : rightO o
  · rfl
  · rw [e2] at h2; rw [e1] at h1
    exact absurd (h1.2 (h2.1 rfl)) (by decide)
  · rw [e2] at h2; rw [e1] at h1
    exact absurd (h2.2 (h1.1 rfl)) (by decide)
  · rfl
theorem u16_nat {x : Int} (h : (Lit.int .u16 x).wf = true) : ∃ n : Nat, x = (n : Int) ∧ n < 65536 := by
  have h0 : IntKind.u16.min = 0 := rfl
  have h1 : IntKind.u16.max = 65535 := rfl
  simp [Lit.wf] at h
  exact ⟨x.toNat, by omega, by omega⟩
theorem u8_rng {x : Int} (h : (Lit.int .u8 x).wf = true) : 0 ≤ x ∧ x < 256 := by
  have h0 : IntKind.u8.min = 0 := rfl
  have h1 : IntKind.u8.max = 255 := rfl
  simp [Lit.wf] at h
  omega
end Go.Proofs.Yteipakmfiiccpaa
