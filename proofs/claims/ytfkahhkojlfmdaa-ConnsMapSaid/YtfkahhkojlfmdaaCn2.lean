/- Package conns in plain Lean: the table is a map. -/
import Derived.Test.YtfkahhkojlfmdaaCn0
set_option linter.unusedVariables false
set_option linter.unusedSimpArgs false
namespace Go.Proofs.Ytfkahhkojlfmdaa
open Go.Vc

/-! ### Lists -/
theorem length_le_of_nodup {α : Type} [DecidableEq α] {l m : List α} (hl : l.Nodup) (h : ∀ x ∈ l, x ∈ m) : l.length ≤ m.length := by
  induction l generalizing m with
  | nil => simp
  | cons x r ih =>
    obtain ⟨hx, hr⟩ := List.nodup_cons.1 hl
    have hxm : x ∈ m := h x (List.mem_cons_self ..)
    have := ih (m := m.erase x) hr fun y hy => (List.mem_erase_of_ne (fun e => hx (by rw [← e]; exact hy))).2 (h y (List.mem_cons_of_mem _ hy))
    rw [List.length_erase_of_mem hxm] at this
    have hpos : 0 < m.length := List.length_pos_of_mem hxm
    simp only [List.length_cons]
    omega

def usedL (s : Nat → Slot) : List Nat := (List.range 128).filter fun i => (s i).used
def cntU (s : Nat → Slot) : Nat := (usedL s).length
theorem mem_usedL {s : Nat → Slot} {i : Nat} : i ∈ usedL s ↔ i < 128 ∧ (s i).used = true := by simp [usedL]
theorem usedL_nodup (s : Nat → Slot) : (usedL s).Nodup := List.Pairwise.filter _ List.nodup_range
theorem exists_unused {s : Nat → Slot} (h : cntU s < 128) : ∃ e, e < 128 ∧ (s e).used = false := by
  apply Classical.byContradiction
  intro hno
  have : (List.range 128).length ≤ (usedL s).length := length_le_of_nodup List.nodup_range fun i hi => mem_usedL.2 ⟨List.mem_range.1 hi, by
    cases hb : (s i).used with
    | true => rfl
    | false => exact absurd ⟨i, List.mem_range.1 hi, hb⟩ hno⟩
  rw [List.length_range] at this
  unfold cntU at h
  omega

theorem cntU_set {s : Nat → Slot} {i : Nat} (hi : i < 128) (hu : (s i).used = false) {x : Slot} (hx : x.used = true) : cntU (setS s i x) = cntU s + 1 := by
  have h1 : (usedL (setS s i x)).length ≤ (i :: usedL s).length := length_le_of_nodup (usedL_nodup _) fun j hj => by
    obtain ⟨h1, h2⟩ := mem_usedL.1 hj
    by_cases e : j = i
    · rw [e]; exact List.mem_cons_self ..
    · simp only [setS, e, if_false] at h2
      exact List.mem_cons_of_mem _ (mem_usedL.2 ⟨h1, h2⟩)
  have h2 : (i :: usedL s).length ≤ (usedL (setS s i x)).length := length_le_of_nodup (List.nodup_cons.2 ⟨(fun h => by
    have := (mem_usedL.1 h).2; rw [hu] at this; cases this), usedL_nodup _⟩) fun j hj => by
    rcases List.mem_cons.1 hj with rfl | hj
    · exact mem_usedL.2 ⟨hi, by simp [setS, hx]⟩
    · obtain ⟨h1, h2⟩ := mem_usedL.1 hj
      refine mem_usedL.2 ⟨h1, ?_⟩
      by_cases e : j = i
      · rw [e] at h2; rw [hu] at h2; cases h2
      · simp [setS, e, h2]
  simp only [List.length_cons] at h1 h2
  unfold cntU
  omega

/-! ### What a search comes to -/
theorem hit_eq {x : Slot} {p v c : Int} (h : hitB x p v c = true) : x.p = p ∧ x.v = v ∧ x.c = c := of_decide_eq_true h
theorem go_ends (s : Nat → Slot) (p v c : Int) (d : Nat) : ∀ i, i < 128 → (s ((i + d) % 128)).used = false → (s (go s p v c (d + 1) i)).used = false ∨ hitB (s (go s p v c (d + 1) i)) p v c = true := by
  induction d with
  | zero =>
    intro i hi hu
    rw [Nat.add_zero, Nat.mod_eq_of_lt hi] at hu
    left
    rw [go_stop _ _ _ _ _ _ (.inl hu)]; exact hu
  | succ d ih =>
    intro i hi hu
    by_cases h : (s i).used = true ∧ hitB (s i) p v c = false
    · rw [go_next _ _ _ _ _ _ h.1 h.2]
      exact ih _ (Nat.mod_lt _ (by decide)) (by rw [show ((i + 1) % 128 + d) % 128 = (i + (d + 1)) % 128 by omega]; exact hu)
    · have h' : (s i).used = false ∨ hitB (s i) p v c = true := by
        cases h1 : (s i).used with
        | false => exact .inl rfl
        | true =>
          cases h2 : hitB (s i) p v c with
          | true => exact .inr rfl
          | false => exact absurd ⟨h1, h2⟩ h
      rw [go_stop _ _ _ _ _ _ h']; exact h'
theorem find_ends {s : Nat → Slot} (p v c : Int) {e : Nat} (he : e < 128) (hu : (s e).used = false) : (s (findN s p v c)).used = false ∨ hitB (s (findN s p v c)) p v c = true := by
  obtain ⟨d, h1, h2⟩ := find_start s p v c e he hu
  rw [← h2]
  exact go_ends s p v c d _ (homeN_lt p v c) (by rw [h1]; exact hu)

/-- A slot that a search doesn't end at, and that is free, plays no part. -/
theorem go_set_other (s : Nat → Slot) (p v c : Int) (i0 : Nat) (x : Slot) (hu0 : (s i0).used = false) (f : Nat) : ∀ i, go s p v c f i ≠ i0 → go (setS s i0 x) p v c f i = go s p v c f i := by
  induction f with
  | zero => intro i _; rfl
  | succ f ih =>
    intro i hne
    by_cases e : i = i0
    · subst e
      exact absurd (go_stop s p v c f i (.inl hu0)) hne
    · by_cases h : (s i).used = true ∧ hitB (s i) p v c = false
      · rw [go_next _ _ _ _ _ _ h.1 h.2] at hne ⊢
        rw [go_next _ _ _ _ _ _ (by simp [setS, e, h.1]) (by simp [setS, e, h.2])]
        exact ih _ hne
      · have h' : (s i).used = false ∨ hitB (s i) p v c = true := by
          cases h1 : (s i).used with
          | false => exact .inl rfl
          | true =>
            cases h2 : hitB (s i) p v c with
            | true => exact .inr rfl
            | false => exact absurd ⟨h1, h2⟩ h
        rw [go_stop _ _ _ _ _ _ h', go_stop _ _ _ _ _ _ (by simpa [setS, e] using h')]
/-- One that a search ends at: with the key itself there it ends there still. -/
theorem go_set_same (s : Nat → Slot) (p v c n : Int) (i0 : Nat) (hu0 : (s i0).used = false) (f : Nat) : ∀ i, go s p v c f i = i0 → go (setS s i0 ⟨p, v, c, n, true⟩) p v c f i = i0 := by
  induction f with
  | zero => intro i h; exact h
  | succ f ih =>
    intro i hq
    by_cases e : i = i0
    · subst e
      exact go_stop _ _ _ _ _ _ (.inr (by simp [setS, hitB]))
    · by_cases h : (s i).used = true ∧ hitB (s i) p v c = false
      · rw [go_next _ _ _ _ _ _ h.1 h.2] at hq
        rw [go_next _ _ _ _ _ _ (by simp [setS, e, h.1]) (by simp [setS, e, h.2])]
        exact ih _ hq
      · have h' : (s i).used = false ∨ hitB (s i) p v c = true := by
          cases h1 : (s i).used with
          | false => exact .inl rfl
          | true =>
            cases h2 : hitB (s i) p v c with
            | true => exact .inr rfl
            | false => exact absurd ⟨h1, h2⟩ h
        rw [go_stop _ _ _ _ _ _ h'] at hq
        exact absurd hq e

/-! ### A table that is in order -/
structure Inv (s : Nat → Slot) (len room : Int) : Prop where
  own : ∀ i, i < 128 → (s i).used = true → findN s (s i).p (s i).v (s i).c = i
  zero : ∀ i, i < 128 → (s i).used = false → s i = noSlot
  right : ∀ i, i < 128 → (s i).used = true → rightB (s i).p (s i).v (s i).c = true
  cnt : len = (cntU s : Nat)
  fits : len ≤ room
  cap : room ≤ 64
theorem Inv.lt {s : Nat → Slot} {len room : Int} (h : Inv s len room) : cntU s < 128 := by have := h.cnt; have := h.fits; have := h.cap; omega
theorem Inv.unused {s : Nat → Slot} {len room : Int} (h : Inv s len room) : ∃ e, e < 128 ∧ (s e).used = false := exists_unused h.lt
theorem Inv.new (m : Int) : Inv noSlots 0 (imax 0 (imin m 64)) := by
  have h0 : usedL noSlots = [] := by simp [usedL, noSlots, noSlot]
  refine ⟨fun i _ h => (by cases h), fun i _ _ => rfl, fun i _ h => (by cases h), by unfold cntU; rw [h0]; rfl, by unfold imax imin; split <;> split <;> omega, by unfold imax imin; split <;> split <;> omega⟩

/-- The number that a key has. -/
def val (s : Nat → Slot) (p v c : Int) : Option Int := if there s p v c = true then some (s (findN s p v c)).n else none
theorem there_iff {s : Nat → Slot} {len room : Int} (h : Inv s len room) (p v c : Int) : there s p v c = true ↔ ∃ i, i < 128 ∧ (s i).used = true ∧ (s i).p = p ∧ (s i).v = v ∧ (s i).c = c := by
  obtain ⟨e, he, hu⟩ := h.unused
  constructor
  · intro ht
    have := find_ends p v c he hu
    unfold there at ht
    rw [ht] at this
    rcases this with h1 | h1
    · cases h1
    · obtain ⟨h2, h3, h4⟩ := hit_eq h1
      exact ⟨_, findN_lt s p v c, ht, h2, h3, h4⟩
  · rintro ⟨i, hi, hiu, rfl, rfl, rfl⟩
    unfold there
    rw [h.own i hi hiu]; exact hiu
theorem there_key {s : Nat → Slot} {len room : Int} (h : Inv s len room) {p v c : Int} (ht : there s p v c = true) : (s (findN s p v c)).p = p ∧ (s (findN s p v c)).v = v ∧ (s (findN s p v c)).c = c := by
  obtain ⟨e, he, hu⟩ := h.unused
  have := find_ends p v c he hu
  unfold there at ht
  rw [ht] at this
  rcases this with h1 | h1
  · cases h1
  · exact hit_eq h1
theorem there_right {s : Nat → Slot} {len room : Int} (h : Inv s len room) {p v c : Int} (ht : there s p v c = true) : rightB p v c = true := by
  obtain ⟨i, hi, hu, rfl, rfl, rfl⟩ := (there_iff h p v c).1 ht
  exact h.right i hi hu

theorem Inv.put {s : Nat → Slot} {len room : Int} (h : Inv s len room) (p v c n : Int) : Inv (putS s len room p v c n) (putL s len room p v c) room := by
  unfold putS putL
  by_cases h0 : putC s len room p v c = 0
  · rw [if_pos h0, if_pos h0]
    have hr : rightB p v c = true ∧ (s (findN s p v c)).used = false ∧ len < room := by
      unfold putC at h0
      split at h0
      · rename_i hr
        split at h0
        · omega
        · rename_i hu
          split at h0
          · omega
          · exact ⟨hr, by simpa using hu, by omega⟩
      · omega
    obtain ⟨hr, hu, hlt⟩ := hr
    have hi := findN_lt s p v c
    refine ⟨fun i hi' hiu => ?_, fun i hi' hiu => ?_, fun i hi' hiu => ?_, ?_, by omega, h.cap⟩
    · by_cases e : i = findN s p v c
      · subst e
        have e0 : setS s (findN s p v c) ⟨p, v, c, n, true⟩ (findN s p v c) = ⟨p, v, c, n, true⟩ := by simp [setS]
        rw [e0]
        exact go_set_same s p v c n _ hu 128 _ rfl
      · have e0 : setS s (findN s p v c) ⟨p, v, c, n, true⟩ i = s i := by simp [setS, e]
        rw [e0] at hiu ⊢
        have ho := h.own i hi' hiu
        have hq := go_set_other s (s i).p (s i).v (s i).c (findN s p v c) ⟨p, v, c, n, true⟩ hu 128 (homeN (s i).p (s i).v (s i).c) (by
          have : go s (s i).p (s i).v (s i).c 128 (homeN (s i).p (s i).v (s i).c) = i := ho
          rw [this]; exact e)
        exact hq.trans ho
    · by_cases e : i = findN s p v c
      · subst e; simp [setS] at hiu
      · have e0 : setS s (findN s p v c) ⟨p, v, c, n, true⟩ i = s i := by simp [setS, e]
        rw [e0] at hiu ⊢
        exact h.zero i hi' hiu
    · by_cases e : i = findN s p v c
      · subst e; simpa [setS] using hr
      · have e0 : setS s (findN s p v c) ⟨p, v, c, n, true⟩ i = s i := by simp [setS, e]
        rw [e0] at hiu ⊢
        exact h.right i hi' hiu
    · rw [cntU_set hi hu rfl, h.cnt]; simp
  · rw [if_neg h0, if_neg h0]; exact h

theorem putC_ok {s : Nat → Slot} {len room p v c : Int} : putC s len room p v c = 0 ↔ rightB p v c = true ∧ there s p v c = false ∧ len < room := by
  unfold putC there
  constructor
  · intro h0
    split at h0
    · rename_i hr
      split at h0
      · omega
      · rename_i hu
        split at h0
        · omega
        · exact ⟨hr, by simpa using hu, by omega⟩
    · omega
  · rintro ⟨h1, h2, h3⟩
    rw [if_pos h1, if_neg (by rw [h2]; simp), if_neg (by omega)]

theorem val_some {s : Nat → Slot} {len room : Int} (h : Inv s len room) {p v c x : Int} : val s p v c = some x ↔ ∃ i, i < 128 ∧ (s i).used = true ∧ (s i).p = p ∧ (s i).v = v ∧ (s i).c = c ∧ (s i).n = x := by
  unfold val
  constructor
  · intro hv
    split at hv
    · rename_i ht
      obtain ⟨h1, h2, h3⟩ := there_key h ht
      simp only [Option.some.injEq] at hv
      exact ⟨_, findN_lt s p v c, ht, h1, h2, h3, hv⟩
    · cases hv
  · rintro ⟨i, hi, hu, rfl, rfl, rfl, rfl⟩
    have ho := h.own i hi hu
    rw [if_pos (by unfold there; rw [ho]; exact hu), ho]
theorem val_there {s : Nat → Slot} {p v c : Int} : there s p v c = (val s p v c).isSome := by
  unfold val; cases there s p v c <;> rfl
theorem val_n {s : Nat → Slot} {len room : Int} (h : Inv s len room) (p v c : Int) : (s (findN s p v c)).n = (val s p v c).getD 0 := by
  unfold val
  cases ht : there s p v c with
  | true => rfl
  | false =>
    have := h.zero _ (findN_lt s p v c) ht
    rw [this]; rfl
theorem val_new (p v c : Int) : val noSlots p v c = none := rfl
theorem val_right {s : Nat → Slot} {len room : Int} (h : Inv s len room) {p v c : Int} (hv : val s p v c ≠ none) : rightB p v c = true := by
  refine there_right h ?_
  rw [val_there]
  cases hh : val s p v c with
  | none => exact absurd hh hv
  | some _ => rfl
theorem putC_ok' {s : Nat → Slot} {len room p v c : Int} : putC s len room p v c = 0 ↔ rightB p v c = true ∧ val s p v c = none ∧ len < room := by
  rw [putC_ok, val_there]
  cases val s p v c <;> simp
theorem val_put {s : Nat → Slot} {len room : Int} (h : Inv s len room) {p v c n : Int} (h0 : putC s len room p v c = 0) (p' v' c' : Int) :
    val (putS s len room p v c n) p' v' c' = if p' = p ∧ v' = v ∧ c' = c then some n else val s p' v' c' := by
  have hp := h.put p v c n
  obtain ⟨hr, hv, hlt⟩ := putC_ok'.1 h0
  have hu : (s (findN s p v c)).used = false := by have := (putC_ok.1 h0).2.1; exact this
  have e : putS s len room p v c n = setS s (findN s p v c) ⟨p, v, c, n, true⟩ := by unfold putS; rw [if_pos h0]
  apply Option.ext
  intro x
  rw [val_some hp, e]
  constructor
  · rintro ⟨i, hi, hiu, h1, h2, h3, h4⟩
    by_cases ei : i = findN s p v c
    · subst ei
      simp only [setS, if_true] at h1 h2 h3 h4
      rw [if_pos ⟨h1.symm, h2.symm, h3.symm⟩, h4]
    · have e0 : setS s (findN s p v c) ⟨p, v, c, n, true⟩ i = s i := by simp [setS, ei]
      rw [e0] at hiu h1 h2 h3 h4
      have hx := (val_some h).2 ⟨i, hi, hiu, h1, h2, h3, h4⟩
      rw [if_neg]
      · exact hx
      · rintro ⟨rfl, rfl, rfl⟩
        rw [hv] at hx; cases hx
  · intro hx
    split at hx
    · rename_i hk
      obtain ⟨rfl, rfl, rfl⟩ := hk
      simp only [Option.some.injEq] at hx
      exact ⟨_, findN_lt s p' v' c', by simp [setS, hx]⟩
    · obtain ⟨i, hi, hiu, h1, h2, h3, h4⟩ := (val_some h).1 hx
      have ei : i ≠ findN s p v c := by rintro rfl; rw [hu] at hiu; cases hiu
      have e0 : setS s (findN s p v c) ⟨p, v, c, n, true⟩ i = s i := by simp [setS, ei]
      exact ⟨i, hi, by rw [e0]; exact ⟨hiu, h1, h2, h3, h4⟩⟩
theorem putL_ok {s : Nat → Slot} {len room p v c : Int} (h0 : putC s len room p v c = 0) : putL s len room p v c = len + 1 := by unfold putL; rw [if_pos h0]
theorem put_not {s : Nat → Slot} {len room p v c n : Int} (h0 : putC s len room p v c ≠ 0) : putS s len room p v c n = s ∧ putL s len room p v c = len := by
  unfold putS putL; rw [if_neg h0, if_neg h0]; exact ⟨rfl, rfl⟩
theorem putC_full {s : Nat → Slot} {len room p v c : Int} (hr : rightB p v c = true) (hv : val s p v c = none) (hf : len ≥ room) : putC s len room p v c = 9 := by
  unfold putC
  have : there s p v c = false := by rw [val_there, hv]; rfl
  unfold there at this
  rw [if_pos hr, if_neg (by rw [this]; simp), if_pos hf]

/-- So many keys of one path as the table has entries, at most. -/
theorem run_le {s : Nat → Slot} {len room : Int} (h : Inv s len room) (p v a e : Int) (hall : ∀ i, a ≤ i → i < e → there s p v i = true) : e - a ≤ len := by
  by_cases hae : e ≤ a
  · have := h.cnt; omega
  · have hnd : ((List.range (e - a).toNat).map fun j => findN s p v (a + (j : Nat))).Nodup := by
      rw [List.nodup_iff_pairwise_ne, List.pairwise_map]
      refine List.Pairwise.imp_of_mem ?_ (List.nodup_iff_pairwise_ne.1 List.nodup_range)
      intro x y hx hy hne heq
      have hx := List.mem_range.1 hx
      have hy := List.mem_range.1 hy
      have k1 := (there_key h (hall (a + (x : Nat)) (by omega) (by omega))).2.2
      have k2 := (there_key h (hall (a + (y : Nat)) (by omega) (by omega))).2.2
      rw [heq, k2] at k1
      omega
    have := length_le_of_nodup (m := usedL s) hnd fun i hi => by
      obtain ⟨j, hj, rfl⟩ := List.mem_map.1 hi
      have hj := List.mem_range.1 hj
      exact mem_usedL.2 ⟨findN_lt .., hall _ (by omega) (by omega)⟩
    simp at this
    have hc := h.cnt
    unfold cntU at hc
    omega
theorem free_no {s : Nat → Slot} {len : Int} (h : Inv s len 64) {p v fr x : Int} {ok : Bool} (hf : FreeP s p v fr x ok) (hok : ok = false) : x = 0 ∧ (!rightB p v 0 || decide (fr > 65471)) = true := by
  obtain ⟨e, he, hall, h1 | h1⟩ := hf
  · rw [hok] at h1; cases h1.1
  · refine ⟨h1.2.1, ?_⟩
    have hrun := run_le h p v (imax fr 0) e fun i hi hlt => (hall i hi hlt).2
    have hfits := h.fits
    cases hr : rightB p v 0 with
    | false => rfl
    | true =>
      have hr0 := of_decide_eq_true hr
      have h3 : rightB p v e = false := h1.2.2
      have h4 := of_decide_eq_false h3
      rw [imax_eq] at he hrun
      simp only [Bool.not_true, Bool.false_or, decide_eq_true_eq]
      omega
theorem free_yes {s : Nat → Slot} {len : Int} (h : Inv s len 64) {p v fr x : Int} {ok : Bool} (hf : FreeP s p v fr x ok) (hok : ok = true) :
    rightB p v x = true ∧ val s p v x = none ∧ imax fr 0 ≤ x ∧ x - imax fr 0 ≤ 64 ∧ 0 ≤ imax fr 0 ∧ fr ≤ imax fr 0 ∧ x < 65536 ∧ ∀ i, imax fr 0 ≤ i → i < x → (val s p v i).isSome = true := by
  obtain ⟨e, he, hall, h1 | h1⟩ := hf
  · obtain ⟨_, rfl, hr, hn⟩ := h1
    have hrun := run_le h p v (imax fr 0) x fun i hi hlt => (hall i hi hlt).2
    have hfits := h.fits
    refine ⟨hr, ?_, he, by omega, by rw [imax_eq]; omega, by rw [imax_eq]; omega, (rightB_lt hr).2, fun i hi hlt => by rw [← val_there]; exact (hall i hi hlt).2⟩
    rw [val_there] at hn
    cases hv : val s p v x with
    | none => rfl
    | some y => rw [hv] at hn; cases hn
  · rw [hok] at h1; cases h1.1
theorem put_last {s : Nat → Slot} {len : Int} (h : Inv s len 64) {p v c : Int} (hr : rightB p v c = true) (hv : val s p v c = none) (hne : putC s len 64 p v c ≠ 0) : (putL s len 64 p v c == 64) = true := by
  have h1 : ¬ len < 64 := fun hlt => hne (putC_ok'.2 ⟨hr, hv, hlt⟩)
  have h2 := h.fits
  rw [(put_not (n := 0) hne).2]
  simp only [beq_iff_eq]
  omega
end Go.Proofs.Ytfkahhkojlfmdaa
