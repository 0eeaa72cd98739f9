/- Package conns in plain Lean: Drop: those that lie behind are laid anew. -/
import Derived.Test.YtfkahhkojlfmdaaCn2
set_option linter.unusedVariables false
set_option linter.unusedSimpArgs false
namespace Go.Proofs.Ytfkahhkojlfmdaa
open Go.Vc

def homeS (x : Slot) : Nat := homeN x.p x.v x.c
/-- Places, told from a place e on. -/
def atE (e k : Nat) : Nat := (e + k) % 128
def offE (e i : Nat) : Nat := (i + 128 - e) % 128
theorem atE_lt (e k : Nat) : atE e k < 128 := Nat.mod_lt _ (by decide)
theorem offE_lt (e i : Nat) : offE e i < 128 := Nat.mod_lt _ (by decide)
theorem atE_off {e i : Nat} (he : e < 128) (hi : i < 128) : atE e (offE e i) = i := by unfold atE offE; omega
theorem offE_at {e k : Nat} (he : e < 128) (hk : k < 128) : offE e (atE e k) = k := by unfold atE offE; omega
theorem atE_succ {e k : Nat} (he : e < 128) : (atE e k + 1) % 128 = atE e (k + 1) := by unfold atE; omega
theorem atE_zero {e : Nat} (he : e < 128) : atE e 0 = e := by unfold atE; omega

theorem hit_self (x : Slot) : hitB x x.p x.v x.c = true := by simp [hitB]
/-- A search along a way of which all but the last place are taken, by other keys. -/
theorem go_along (s : Nat → Slot) (p v c : Int) (e : Nat) (he : e < 128) : ∀ (d h f : Nat), h + d < 128 → d < f → (∀ x, h ≤ x → x < h + d → (s (atE e x)).used = true ∧ hitB (s (atE e x)) p v c = false) →
    ((s (atE e (h + d))).used = false ∨ hitB (s (atE e (h + d))) p v c = true) → go s p v c f (atE e h) = atE e (h + d)
  | 0, h, f, h1, h2, _, h4 => by
    obtain ⟨f, rfl⟩ : ∃ g, f = g + 1 := ⟨f - 1, by omega⟩
    exact go_stop s p v c f _ h4
  | d + 1, h, f, h1, h2, h3, h4 => by
    obtain ⟨f, rfl⟩ : ∃ g, f = g + 1 := ⟨f - 1, by omega⟩
    obtain ⟨a, b⟩ := h3 h (Nat.le_refl _) (by omega)
    rw [go_next _ _ _ _ _ _ a b, atE_succ he]
    have := go_along s p v c e he d (h + 1) f (by omega) (by omega) (fun x hx1 hx2 => h3 x (by omega) (by omega)) (by rw [show h + 1 + d = h + (d + 1) by omega]; exact h4)
    rw [this]; congr 1; omega
/-- Where a search that starts at e's h-th place stops: the first place that is free, or has the key. -/
theorem go_first (s : Nat → Slot) (p v c : Int) (e : Nat) (he : e < 128) (h k : Nat) (hk : k < 128) (hh : h ≤ k) (hs : (s (atE e k)).used = false ∨ hitB (s (atE e k)) p v c = true) :
    ∃ j, h ≤ j ∧ j ≤ k ∧ go s p v c 128 (atE e h) = atE e j ∧ (∀ x, h ≤ x → x < j → (s (atE e x)).used = true ∧ hitB (s (atE e x)) p v c = false) ∧ ((s (atE e j)).used = false ∨ hitB (s (atE e j)) p v c = true) := by
  -- the least j from h on at which it stops
  have key : ∀ n h, k - h = n → h ≤ k → ∃ j, h ≤ j ∧ j ≤ k ∧ (∀ x, h ≤ x → x < j → (s (atE e x)).used = true ∧ hitB (s (atE e x)) p v c = false) ∧ ((s (atE e j)).used = false ∨ hitB (s (atE e j)) p v c = true) := by
    intro n
    induction n with
    | zero => intro h hn hle; obtain rfl : h = k := (by omega); exact ⟨h, Nat.le_refl _, Nat.le_refl _, fun x h1 h2 => by omega, hs⟩
    | succ n ih =>
      intro h hn hle
      by_cases hst : (s (atE e h)).used = false ∨ hitB (s (atE e h)) p v c = true
      · exact ⟨h, Nat.le_refl _, hle, fun x h1 h2 => by omega, hst⟩
      · obtain ⟨j, h1, h2, h3, h4⟩ := ih (h + 1) (by omega) (by omega)
        refine ⟨j, by omega, h2, fun x hx1 hx2 => ?_, h4⟩
        by_cases ex : x = h
        · subst ex
          constructor
          · cases hu : (s (atE e x)).used
            · exact absurd (.inl hu) hst
            · rfl
          · cases hb : hitB (s (atE e x)) p v c
            · rfl
            · exact absurd (.inr hb) hst
        · exact h3 x (by omega) hx2
  obtain ⟨j, h1, h2, h3, h4⟩ := key _ h rfl hh
  refine ⟨j, h1, h2, ?_, h3, h4⟩
  have := go_along s p v c e he (j - h) h 128 (by omega) (by omega) (fun x hx1 hx2 => h3 x hx1 (by omega)) (by rw [show h + (j - h) = j by omega]; exact h4)
  rw [this]; congr 1; omega

/-- No key lies at two places. -/
def Apart (s : Nat → Slot) : Prop := ∀ i j, i < 128 → j < 128 → (s i).used = true → (s j).used = true → (s i).p = (s j).p → (s i).v = (s j).v → (s i).c = (s j).c → i = j
theorem Inv.apart {s : Nat → Slot} {len room : Int} (h : Inv s len room) : Apart s := by
  intro i j hi hj ui uj h1 h2 h3
  have a := h.own i hi ui
  rw [h1, h2, h3] at a
  exact a.symm.trans (h.own j hj uj)
/-- Each place from a key's home on is taken, up to its own, but for those of H. -/
structure LinI (s : Nat → Slot) (e : Nat) (H : Nat → Nat → Prop) : Prop where
  free : (s e).used = false
  way : ∀ k, k < 128 → (s (atE e k)).used = true → offE e (homeS (s (atE e k))) ≤ k ∧ ∀ x, offE e (homeS (s (atE e k))) ≤ x → x < k → (s (atE e x)).used = true ∨ H k x
  pos : ∀ k, k < 128 → (s (atE e k)).used = true → 0 < offE e (homeS (s (atE e k)))
theorem Inv.lin {s : Nat → Slot} {len room : Int} (h : Inv s len room) {e : Nat} (he : e < 128) (hu : (s e).used = false) : LinI s e (fun _ _ => False) := by
  refine ⟨hu, fun k hk hku => ?_, fun k hk hku => Nat.pos_of_ne_zero fun h0 => ?_⟩
  rotate_left
  · have hh : homeS (s (atE e k)) < 128 := homeN_lt _ _ _
    have hho : homeN (s (atE e k)).p (s (atE e k)).v (s (atE e k)).c = e := by
      have := atE_off he hh
      rw [h0, atE_zero he] at this; exact this.symm
    have ho := h.own (atE e k) (atE_lt e k) hku
    unfold findN at ho
    rw [hho, go_stop _ _ _ _ 127 _ (.inl hu)] at ho
    rw [← ho, hu] at hku; cases hku
  have hh : homeS (s (atE e k)) < 128 := homeN_lt _ _ _
  have ho := h.own (atE e k) (atE_lt e k) hku
  have hho : homeN (s (atE e k)).p (s (atE e k)).v (s (atE e k)).c = atE e (offE e (homeS (s (atE e k)))) := (atE_off he hh).symm
  unfold findN at ho
  rw [hho] at ho
  generalize hho2 : offE e (homeS (s (atE e k))) = ho2 at *
  have hl : ho2 < 128 := by rw [← hho2]; exact offE_lt _ _
  by_cases hle : ho2 ≤ k
  · refine ⟨hle, fun x hx1 hx2 => .inl ?_⟩
    obtain ⟨j, j1, j2, j3, j4, j5⟩ := go_first s (s (atE e k)).p (s (atE e k)).v (s (atE e k)).c e he ho2 k hk hle (.inr (hit_self _))
    rw [ho] at j3
    have hjk : k = j := by
      have := congrArg (offE e) j3
      rwa [offE_at he hk, offE_at he (by omega)] at this
    exact (j4 x hx1 (by omega)).1
  · exfalso
    -- the search ends ahead of e's own place: at 127 + 1 it is free
    have h128 : atE e 128 = e := by unfold atE; omega
    have walk : ∀ f h, ho2 ≤ h → h ≤ 128 → 128 - h < f → ∃ j, h ≤ j ∧ j ≤ 128 ∧ go s (s (atE e k)).p (s (atE e k)).v (s (atE e k)).c f (atE e h) = atE e j := by
      intro f
      induction f with
      | zero => intro h _ _ hf; omega
      | succ f ih =>
        intro h h1 h2 h3
        by_cases hst : (s (atE e h)).used = true ∧ hitB (s (atE e h)) (s (atE e k)).p (s (atE e k)).v (s (atE e k)).c = false
        · have hne : h ≠ 128 := by rintro rfl; rw [h128, hu] at hst; cases hst.1
          rw [go_next _ _ _ _ _ _ hst.1 hst.2, atE_succ he]
          obtain ⟨j, j1, j2, j3⟩ := ih (h + 1) (by omega) (by omega) (by omega)
          exact ⟨j, by omega, j2, j3⟩
        · refine ⟨h, Nat.le_refl _, h2, go_stop _ _ _ _ _ _ ?_⟩
          cases hu2 : (s (atE e h)).used
          · exact .inl rfl
          · cases hb2 : hitB (s (atE e h)) (s (atE e k)).p (s (atE e k)).v (s (atE e k)).c
            · exact absurd ⟨hu2, hb2⟩ hst
            · exact .inr rfl
    obtain ⟨j, j1, j2, j3⟩ := walk 128 ho2 (Nat.le_refl _) (by omega) (by
      have : 0 < ho2 := by omega
      omega)
    rw [ho] at j3
    by_cases ej : j = 128
    · rw [ej, h128] at j3; rw [j3, hu] at hku; cases hku
    · have := congrArg (offE e) j3
      rw [offE_at he hk, offE_at he (by omega)] at this
      omega
/-- And back. -/
theorem LinI.own {s : Nat → Slot} {e : Nat} (h : LinI s e (fun _ _ => False)) (he : e < 128) (ha : Apart s) : ∀ i, i < 128 → (s i).used = true → findN s (s i).p (s i).v (s i).c = i := by
  intro i hi hiu
  have ei := atE_off he hi
  have hk := offE_lt e i
  obtain ⟨w1, w2⟩ := h.way (offE e i) hk (by rw [ei]; exact hiu)
  rw [ei] at w1 w2
  have hh : homeS (s i) < 128 := homeN_lt _ _ _
  have hho : homeN (s i).p (s i).v (s i).c = atE e (offE e (homeS (s i))) := (atE_off he hh).symm
  unfold findN
  rw [hho]
  generalize offE e (homeS (s i)) = ho at *
  have := go_along s (s i).p (s i).v (s i).c e he (offE e i - ho) ho 128 (by omega) (by omega) (fun x hx1 hx2 => by
    have hu := (w2 x hx1 (by omega)).resolve_right id
    refine ⟨hu, ?_⟩
    cases hb : hitB (s (atE e x)) (s i).p (s i).v (s i).c
    · rfl
    · obtain ⟨b1, b2, b3⟩ := hit_eq hb
      have := ha _ _ (atE_lt e x) hi hu hiu b1 b2 b3
      have := congrArg (offE e) this
      rw [offE_at he (by omega)] at this
      omega) (by rw [show ho + (offE e i - ho) = offE e i by omega, ei]; exact .inr (hit_self _))
  rw [this, show ho + (offE e i - ho) = offE e i by omega, ei]
/-! ### The loop that lays anew -/
/-- k places behind e is the next one that is laid anew. -/
structure DropI (s : Nat → Slot) (e k : Nat) : Prop where
  lin : LinI s e (fun j x => k ≤ j ∧ x < k)
  apart : Apart s
  zero : ∀ i, i < 128 → (s i).used = false → s i = noSlot
/-- What a table holds. -/
def HasS (s : Nat → Slot) (x : Slot) : Prop := x.used = true ∧ ∃ i, i < 128 ∧ s i = x
theorem setS_eq (s : Nat → Slot) (i : Nat) (x : Slot) : setS s i x i = x := by simp [setS]
theorem setS_ne {s : Nat → Slot} {i j : Nat} (h : j ≠ i) (x : Slot) : setS s i x j = s j := by simp [setS, h]
/-- A place is emptied: what lies behind it may have a hole ahead. -/
theorem LinI.clear {s : Nat → Slot} {e k : Nat} (h : LinI s e (fun j x => k ≤ j ∧ x < k)) (he : e < 128) (hk : k < 128) : LinI (setS s (atE e k) noSlot) e (fun j x => k + 1 ≤ j ∧ x < k + 1) := by
  refine ⟨?_, fun j hj hju => ?_, fun j hj hju => ?_⟩
  rotate_right
  · by_cases ej : j = k
    · subst ej; rw [setS_eq] at hju; cases hju
    · have hne : atE e j ≠ atE e k := fun e1 => ej (by have := congrArg (offE e) e1; rwa [offE_at he hj, offE_at he hk] at this)
      rw [setS_ne hne] at hju ⊢
      exact h.pos j hj hju
  · by_cases h0 : e = atE e k
    · rw [← h0, setS_eq]; rfl
    · rw [setS_ne h0]; exact h.free
  · by_cases ej : j = k
    · subst ej; rw [setS_eq] at hju; cases hju
    · have hne : atE e j ≠ atE e k := fun e1 => ej (by have := congrArg (offE e) e1; rwa [offE_at he hj, offE_at he hk] at this)
      rw [setS_ne hne] at hju ⊢
      obtain ⟨w1, w2⟩ := h.way j hj hju
      refine ⟨w1, fun x hx1 hx2 => ?_⟩
      by_cases ex : x = k
      · right; omega
      · have hne2 : atE e x ≠ atE e k := fun e1 => ex (by have := congrArg (offE e) e1; rwa [offE_at he (by omega), offE_at he hk] at this)
        rw [setS_ne hne2]
        rcases w2 x hx1 hx2 with h1 | h1
        · exact .inl h1
        · right; omega
theorem Apart.clear {s : Nat → Slot} (h : Apart s) (i : Nat) : Apart (setS s i noSlot) := by
  intro a b ha hb ua ub
  have na : a ≠ i := by rintro rfl; rw [setS_eq] at ua; cases ua
  have nb : b ≠ i := by rintro rfl; rw [setS_eq] at ub; cases ub
  rw [setS_ne na] at ua ⊢
  rw [setS_ne nb] at ub ⊢
  exact h a b ha hb ua ub
theorem zero_clear {s : Nat → Slot} (h : ∀ i, i < 128 → (s i).used = false → s i = noSlot) (i : Nat) : ∀ j, j < 128 → (setS s i noSlot j).used = false → setS s i noSlot j = noSlot := by
  intro j hj hu
  by_cases e : j = i
  · subst e; rw [setS_eq]
  · rw [setS_ne e] at hu ⊢; exact h j hj hu
/-- It is laid anew. -/
theorem DropI.next {s : Nat → Slot} {e k : Nat} (h : DropI s e k) (he : e < 128) (hk : k < 128) (hu : (s (atE e k)).used = true) :
    ∃ f, f < 128 ∧ findN (setS s (atE e k) noSlot) (s (atE e k)).p (s (atE e k)).v (s (atE e k)).c = f ∧ (setS s (atE e k) noSlot f).used = false ∧
      DropI (setS (setS s (atE e k) noSlot) f (s (atE e k))) e (k + 1) ∧ (∀ x, HasS (setS (setS s (atE e k) noSlot) f (s (atE e k))) x ↔ HasS s x) := by
  generalize hX : s (atE e k) = X at *
  have hl := h.lin.clear he hk
  have ha := h.apart.clear (atE e k)
  have hz := zero_clear h.zero (atE e k)
  obtain ⟨w1, w2⟩ := h.lin.way k hk (by rw [hX]; exact hu)
  rw [hX] at w1 w2
  have hh : homeS X < 128 := homeN_lt _ _ _
  have hho : homeN X.p X.v X.c = atE e (offE e (homeS X)) := (atE_off he hh).symm
  obtain ⟨j, j1, j2, j3, j4, j5⟩ := go_first (setS s (atE e k) noSlot) X.p X.v X.c e he (offE e (homeS X)) k hk w1 (.inl (by rw [setS_eq]; rfl))
  -- the key is nowhere else
  have hno : ∀ i, i < 128 → (setS s (atE e k) noSlot i).used = true → hitB (setS s (atE e k) noSlot i) X.p X.v X.c = false := by
    intro i hi hiu
    have ni : i ≠ atE e k := by rintro rfl; rw [setS_eq] at hiu; cases hiu
    rw [setS_ne ni] at hiu ⊢
    cases hb : hitB (s i) X.p X.v X.c
    · rfl
    · obtain ⟨b1, b2, b3⟩ := hit_eq hb
      exact absurd (h.apart i (atE e k) hi (atE_lt e k) hiu (by rw [hX]; exact hu) (by rw [hX, b1]) (by rw [hX, b2]) (by rw [hX, b3])) ni
  have hju : (setS s (atE e k) noSlot (atE e j)).used = false := by
    rcases j5 with h5 | h5
    · exact h5
    · cases hq : (setS s (atE e k) noSlot (atE e j)).used
      · rfl
      · rw [hno _ (atE_lt e j) hq] at h5; cases h5
  refine ⟨atE e j, atE_lt e j, by unfold findN; rw [hho]; exact j3, hju, ⟨⟨?_, ?_, ?_⟩, ?_, ?_⟩, ?_⟩
  rotate_left 2
  · intro i hi hiu
    by_cases ei : i = j
    · subst ei
      rw [setS_eq] at hiu ⊢
      have hp := h.lin.pos k hk (by rw [hX]; exact hu)
      rwa [hX] at hp
    · have hne : atE e i ≠ atE e j := fun e1 => ei (by have := congrArg (offE e) e1; rwa [offE_at he hi, offE_at he (by omega)] at this)
      rw [setS_ne hne] at hiu ⊢
      exact hl.pos i hi hiu
  rotate_right 2
  · -- e stays free
    by_cases e0 : e = atE e j
    · exfalso
      have hj0 : j = 0 := by have := congrArg (offE e) e0; rw [offE_at he (by omega)] at this; rw [← this]; unfold offE; omega
      -- home is e: then the way from there on had e in it
      have hp := h.lin.pos k hk (by rw [hX]; exact hu)
      rw [hX] at hp
      omega
    · rw [setS_ne e0]; exact hl.free
  · intro i hi hiu
    by_cases ei : i = j
    · subst ei
      rw [setS_eq] at hiu ⊢
      refine ⟨j1, fun x hx1 hx2 => .inl ?_⟩
      have hne : atE e x ≠ atE e i := fun e1 => by have := congrArg (offE e) e1; rw [offE_at he (by omega), offE_at he (by omega)] at this; omega
      rw [setS_ne hne]
      exact (j4 x hx1 hx2).1
    · have hne : atE e i ≠ atE e j := fun e1 => ei (by have := congrArg (offE e) e1; rwa [offE_at he hi, offE_at he (by omega)] at this)
      rw [setS_ne hne] at hiu ⊢
      obtain ⟨v1, v2⟩ := hl.way i hi hiu
      refine ⟨v1, fun x hx1 hx2 => ?_⟩
      rcases v2 x hx1 hx2 with h1 | h1
      · left
        by_cases ex : atE e x = atE e j
        · rw [ex, setS_eq]; exact hu
        · rw [setS_ne ex]; exact h1
      · exact .inr h1
  · intro a b ha' hb' ua ub c1 c2 c3
    by_cases ea : a = atE e j
    · by_cases eb : b = atE e j
      · rw [ea, eb]
      · exfalso
        rw [ea, setS_eq] at c1 c2 c3
        rw [setS_ne eb] at ub c1 c2 c3
        have := hno b hb' ub
        rw [show hitB (setS s (atE e k) noSlot b) X.p X.v X.c = true by simp [hitB, c1, c2, c3]] at this
        cases this
    · by_cases eb : b = atE e j
      · exfalso
        rw [eb, setS_eq] at c1 c2 c3
        rw [setS_ne ea] at ua c1 c2 c3
        have := hno a ha' ua
        rw [show hitB (setS s (atE e k) noSlot a) X.p X.v X.c = true by simp [hitB, c1, c2, c3]] at this
        cases this
      · rw [setS_ne ea] at ua c1 c2 c3
        rw [setS_ne eb] at ub c1 c2 c3
        exact ha a b ha' hb' ua ub c1 c2 c3
  · intro i hi hiu
    by_cases ei : i = atE e j
    · rw [ei, setS_eq, hu] at hiu; cases hiu
    · rw [setS_ne ei] at hiu ⊢; exact hz i hi hiu
  · intro x
    constructor
    · rintro ⟨hx, i, hi, hix⟩
      refine ⟨hx, ?_⟩
      by_cases ei : i = atE e j
      · rw [ei, setS_eq] at hix; exact ⟨atE e k, atE_lt e k, by rw [hX]; exact hix⟩
      · rw [setS_ne ei] at hix
        by_cases ei2 : i = atE e k
        · rw [ei2, setS_eq] at hix; rw [← hix] at hx; cases hx
        · rw [setS_ne ei2] at hix; exact ⟨i, hi, hix⟩
    · rintro ⟨hx, i, hi, hix⟩
      refine ⟨hx, ?_⟩
      by_cases ei2 : i = atE e k
      · exact ⟨atE e j, atE_lt e j, by rw [setS_eq, ← hX, ← ei2]; exact hix⟩
      · have : i ≠ atE e j := by
          rintro rfl
          rw [setS_ne ei2, hix, hx] at hju; cases hju
        exact ⟨i, hi, by rw [setS_ne this, setS_ne ei2]; exact hix⟩
/-- The loop's end: what lies behind is in order. -/
theorem DropI.done {s : Nat → Slot} {e k : Nat} (h : DropI s e k) (he : e < 128) (hk : k < 128 ∧ (s (atE e k)).used = false ∨ k = 128) : ∀ i, i < 128 → (s i).used = true → findN s (s i).p (s i).v (s i).c = i := by
  refine LinI.own ⟨h.lin.free, fun j hj hju => ?_, h.lin.pos⟩ he h.apart
  obtain ⟨w1, w2⟩ := h.lin.way j hj hju
  refine ⟨w1, fun x hx1 hx2 => .inl ?_⟩
  rcases w2 x hx1 hx2 with h1 | ⟨h1, h2⟩
  · exact h1
  · -- j lies behind the free place k: its way has k in it
    rcases hk with ⟨hk, hku⟩ | hk
    · by_cases ejk : j = k
      · subst ejk; rw [hku] at hju; cases hju
      · rcases w2 k (by omega) (by omega) with h3 | h3
        · rw [hku] at h3; cases h3
        · omega
    · omega
end Go.Proofs.Ytfkahhkojlfmdaa
