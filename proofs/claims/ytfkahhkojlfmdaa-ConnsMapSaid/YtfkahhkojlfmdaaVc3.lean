/- The calculus' third part: regions whose order is drawn. One theorem for whatever order ('VC_any'), and its plain case: operations that look at a world and leave it ('VC_still'). -/
import Derived.Test.YtfkahhkojlfmdaaVc2
set_option linter.unusedVariables false
set_option linter.unusedSimpArgs false
namespace Go.Vc
open Go.RowKit

def dstOf (ops : Array Oper) (k : Nat) : Option Nat := (ops[k]?).bind (·.dst)
def aftOf (ops : Array Oper) (k : Nat) : List Nat := match ops[k]? with
  | some o => (o.after.toList.filter (Region.binds .any)).map (·.on)
  | none => []
def nmem (x : Nat) (l : List Nat) : Bool := l.any (Nat.beq x)
theorem nmem_iff {x : Nat} {l : List Nat} : nmem x l = true ↔ x ∈ l := by
  simp only [nmem, List.any_eq_true]
  constructor
  · rintro ⟨y, hy, h⟩; rw [Nat.eq_of_beq_eq_true h]; exact hy
  · intro h; exact ⟨x, h, Nat.beq_refl x⟩
def tb (tbl : List (List Nat)) (k : Nat) : List Nat := tbl.getD k []
/-- The slots of an operation and of all that it waits for. -/
def slotsOf (ops : Array Oper) (tbl : List (List Nat)) (j : Nat) : List Nat := (j :: tb tbl j).filterMap (dstOf ops)
def rs (ops : Array Oper) (tbl : List (List Nat)) (j : Nat) (ρ : Nat → Value) : Nat → Value := fun t => bif nmem t (slotsOf ops tbl j) then ρ t else undef
def upd (ρ : Nat → Value) (d : Nat) (v : Value) : Nat → Value := fun t => bif Nat.beq d t then v else ρ t
def allB (m : Nat) (p : Nat → Bool) : Bool := (List.range m).all p
theorem allB_spec {m : Nat} {p : Nat → Bool} (h : allB m p = true) : ∀ k, k < m → p k = true := fun k hk => (List.all_eq_true.1 h) k (List.mem_range.2 hk)

/-- May operation k read the base slot t? All that write it wait for k. -/
def baseOk (ops : Array Oper) (tbl : List (List Nat)) (m k t : Nat) : Bool := allB m fun j => match dstOf ops j with
  | some d => !Nat.beq d t || nmem k (tb tbl j)
  | none => true
/-- What operation k may read: its ancestors' slots, and the base slots that nothing has written. -/
def lk (ops : Array Oper) (tbl : List (List Nat)) (m : Nat) (l : List (Nat × Value)) (k : Nat) (ρ : Nat → Value) : List (Nat × Value) :=
  ((tb tbl k).filterMap (dstOf ops)).map (fun t => (t, ρ t)) ++ l.filter (fun p => baseOk ops tbl m k p.1)
/-- What is known when the first m are done. -/
def lm (ops : Array Oper) (m : Nat) (l : List (Nat × Value)) (ρ : Nat → Value) : List (Nat × Value) :=
  ((List.range m).filterMap (dstOf ops)).map (fun t => (t, ρ t)) ++ l.filter (fun p => allB m fun j => match dstOf ops j with
    | some d => !Nat.beq d p.1
    | none => true)

def drawChk (n : Nat) (ops : Array Oper) (tbl : List (List Nat)) (m : Nat) : Bool :=
  Nat.ble m ops.size &&
  allB ops.size (fun k => (aftOf ops k).all (fun x => Nat.blt x k) && (tb tbl k).all fun x => Nat.blt x k && (nmem x (aftOf ops k) || (aftOf ops k).any fun j => nmem x (tb tbl j))) &&
  allB m (fun k => match dstOf ops k with
    | some d => Nat.blt d n && allB m fun j => Nat.beq j k || nmem k (tb tbl j) || !nmem d (slotsOf ops tbl j)
    | none => false) &&
  allB ops.size (fun k => Nat.blt k m || allB k fun x => nmem x (tb tbl k))

theorem look_append {l1 l2 : List (Nat × Value)} {t : Nat} {v : Value} (h : look (l1 ++ l2) t = some v) : look l1 t = some v ∨ look l2 t = some v := by
  induction l1 with
  | nil => exact .inr h
  | cons x r ih =>
    obtain ⟨k, u⟩ := x
    simp only [List.cons_append, look] at h ⊢
    cases e : Nat.beq k t with
    | true => rw [e] at h; exact .inl h
    | false => rw [e] at h; exact ih h
theorem look_map {ts : List Nat} {ρ : Nat → Value} {t : Nat} {v : Value} (h : look (ts.map fun t => (t, ρ t)) t = some v) : t ∈ ts ∧ v = ρ t := by
  induction ts with
  | nil => cases h
  | cons x r ih =>
    simp only [List.map_cons, look] at h
    cases e : Nat.beq x t with
    | true =>
      rw [e] at h
      have : x = t := Nat.eq_of_beq_eq_true e
      subst this
      simp only [cond_true, Option.some.injEq] at h
      exact ⟨List.mem_cons_self .., h.symm⟩
    | false =>
      rw [e] at h
      obtain ⟨h1, h2⟩ := ih h
      exact ⟨List.mem_cons_of_mem _ h1, h2⟩
theorem look_filter {l : List (Nat × Value)} {p : Nat → Bool} {t : Nat} {v : Value} (h : look (l.filter fun x => p x.1) t = some v) : look l t = some v ∧ p t = true := by
  induction l with
  | nil => cases h
  | cons x r ih =>
    obtain ⟨k, u⟩ := x
    simp only [List.filter_cons] at h
    cases hp : p k with
    | true =>
      rw [hp] at h
      simp only [if_true, look] at h ⊢
      cases e : Nat.beq k t with
      | true =>
        rw [e] at h
        have : k = t := Nat.eq_of_beq_eq_true e
        subst this
        exact ⟨h, hp⟩
      | false => rw [e] at h; exact ih h
    | false =>
      rw [hp] at h
      simp only [Bool.false_eq_true, if_false] at h
      obtain ⟨h1, h2⟩ := ih h
      refine ⟨?_, h2⟩
      simp only [look]
      cases e : Nat.beq k t with
      | true =>
        have : k = t := Nat.eq_of_beq_eq_true e
        subst this
        rw [hp] at h2; cases h2
      | false => exact h1

section
variable {r : Option Nat} {n : Nat} {ds : List Deferred} {P : Program} {ops : Array Oper} {Q : Exit → Act → World → Prop} {l : List (Nat × Value)} {w : World}

/-- Whatever an operation does to the frame, it lays one value into its slot. -/
theorem wpOpIn_put {k : Nat} {o : Oper} (ho : ops[k]? = some o) {d : Nat} (hd : o.dst = some d) {K : Act → World → Prop} {a : Act} (hK : ∀ a' w', K a' w' → a'.defers = a.defers) (h : wpOpIn (Fx r) 0 P ops Q k K a w) :
    wpOpIn (Fx r) 0 P ops Q k (fun a' w' => K a' w' ∧ ∃ v, a' = a.put (some d) v) a w := by
  unfold wpOpIn at h ⊢
  simp only [ho] at h ⊢
  split
  · rename_i hw
    simp only [hw, if_true] at h
    unfold Oper.wpIn at h ⊢
    refine ⟨h.1, ?_⟩
    have h2 := h.2
    generalize (o.semAt (Fx r).round a.eval).run P w = x at h2
    cases x with
    | ok nx w' =>
      cases nx <;> simp only [Oper.uponIn] at h2 ⊢
      case value v => exact ⟨h2, v, by rw [hd]⟩
      case skip => exact ⟨h2, _, by rw [hd]⟩
      case enter f args =>
        refine ⟨h2.1, CallsIn.mono h2.2 fun e w'' he => ?_⟩
        cases e with
        | returned v => exact ⟨he, v, by rw [hd]⟩
        | panicked c => exact he
        | outgrown => exact he
      case row x y => exact ⟨h2.1, RowsIn.mono h2.2 fun v w'' he => ⟨he, v, by rw [hd]⟩⟩
      case round a1 a2 a3 a4 a5 =>
        refine ⟨h2.1, RoundIn.mono h2.2 fun e w'' he => ?_⟩
        cases e with
        | returned v => exact ⟨he, v, by rw [hd]⟩
        | panicked c => exact he
        | outgrown => exact he
      case defer dd =>
        have := hK _ _ h2
        rw [hd] at this
        simp [Act.put] at this
    | halt hh w' => cases hh <;> simp only [Oper.uponIn] at h2 ⊢ <;> exact h2
  · rename_i hw
    simp only [hw] at h
    exact ⟨h.1, h.2, _, by rw [hd]⟩
theorem wpOpIn_put0 {k : Nat} {o : Oper} (ho : ops[k]? = some o) (hd : o.dst = none) {K : Act → World → Prop} {a : Act} (hK : ∀ a' w', K a' w' → a'.defers = a.defers) (h : wpOpIn (Fx r) 0 P ops Q k K a w) :
    wpOpIn (Fx r) 0 P ops Q k (fun a' w' => K a' w' ∧ ∃ v, a' = a.put none v) a w := by
  unfold wpOpIn at h ⊢
  simp only [ho] at h ⊢
  split
  · rename_i hw
    simp only [hw, if_true] at h
    unfold Oper.wpIn at h ⊢
    refine ⟨h.1, ?_⟩
    have h2 := h.2
    generalize (o.semAt (Fx r).round a.eval).run P w = x at h2
    cases x with
    | ok nx w' =>
      cases nx <;> simp only [Oper.uponIn] at h2 ⊢
      case value v => exact ⟨h2, v, by rw [hd]⟩
      case skip => exact ⟨h2, _, by rw [hd]⟩
      case enter f args =>
        refine ⟨h2.1, CallsIn.mono h2.2 fun e w'' he => ?_⟩
        cases e with
        | returned v => exact ⟨he, v, by rw [hd]⟩
        | panicked c => exact he
        | outgrown => exact he
      case row x y => exact ⟨h2.1, RowsIn.mono h2.2 fun v w'' he => ⟨he, v, by rw [hd]⟩⟩
      case round a1 a2 a3 a4 a5 =>
        refine ⟨h2.1, RoundIn.mono h2.2 fun e w'' he => ?_⟩
        cases e with
        | returned v => exact ⟨he, v, by rw [hd]⟩
        | panicked c => exact he
        | outgrown => exact he
      case defer dd =>
        have := hK _ _ h2
        rw [hd] at this
        simp [Act.put] at this
    | halt hh w' => cases hh <;> simp only [Oper.uponIn] at h2 ⊢ <;> exact h2
  · rename_i hw
    simp only [hw] at h
    exact ⟨h.1, h.2, _, by rw [hd]⟩

/-- The first k are done, no other one. -/
def Upto (ops : Array Oper) (k : Nat) (S : Array Bool) : Prop := S.size = ops.size ∧ ∀ j, j < ops.size → S.getD j true = decide (j < k)

theorem ready_mem {S : Array Bool} {i : Nat} : i ∈ Region.ready .any ops S ↔ i < ops.size ∧ S.getD i true = false ∧ ∀ x ∈ aftOf ops i, S.getD x false = true := by
  unfold Region.ready aftOf
  simp only [List.mem_filter, List.mem_range, Bool.and_eq_true, Bool.not_eq_true']
  constructor
  · rintro ⟨h1, h2, h3⟩
    refine ⟨h1, h2, fun x hx => ?_⟩
    rw [Array.getElem?_eq_getElem h1] at h3 hx
    simp only [Option.map_some, Option.getD_some, Array.all_eq_true_iff_forall_mem, Bool.or_eq_true, Bool.not_eq_true'] at h3
    simp only [List.mem_map, List.mem_filter, Array.mem_toList_iff] at hx
    obtain ⟨e, ⟨he, hb⟩, rfl⟩ := hx
    rcases h3 e he with h | h
    · rw [hb] at h; cases h
    · exact h
  · rintro ⟨h1, h2, h3⟩
    refine ⟨h1, h2, ?_⟩
    rw [Array.getElem?_eq_getElem h1] at h3 ⊢
    simp only [Option.map_some, Option.getD_some, Array.all_eq_true_iff_forall_mem, Bool.or_eq_true, Bool.not_eq_true']
    intro e he
    cases hb : Region.binds .any e with
    | false => exact .inl rfl
    | true => exact .inr (h3 e.on (List.mem_map.2 ⟨e, List.mem_filter.2 ⟨by simpa using he, hb⟩, rfl⟩))

structure Chk (n : Nat) (ops : Array Oper) (tbl : List (List Nat)) (m : Nat) : Prop where
  le : m ≤ ops.size
  aft : ∀ k, k < ops.size → ∀ x ∈ aftOf ops k, x < k
  lt : ∀ k, k < ops.size → ∀ x ∈ tb tbl k, x < k
  why : ∀ k, k < ops.size → ∀ x ∈ tb tbl k, x ∈ aftOf ops k ∨ ∃ j ∈ aftOf ops k, x ∈ tb tbl j
  dst : ∀ k, k < m → ∃ d, dstOf ops k = some d ∧ d < n ∧ ∀ j, j < m → j ≠ k → k ∉ tb tbl j → d ∉ slotsOf ops tbl j
  tail : ∀ k, k < ops.size → m ≤ k → ∀ x, x < k → x ∈ tb tbl k

structure ChkL (n : Nat) (ops : Array Oper) (tbl : List (List Nat)) (m : Nat) : Prop where
  le : m ≤ ops.size
  aft : ∀ k, k < ops.size → ∀ x ∈ aftOf ops k, x < k
  lt : ∀ k, k < ops.size → ∀ x ∈ tb tbl k, x < k
  why : ∀ k, k < ops.size → ∀ x ∈ tb tbl k, x ∈ aftOf ops k ∨ ∃ j ∈ aftOf ops k, x ∈ tb tbl j
  dst : ∀ k, k < m → dstOf ops k = none ∨ ∃ d, dstOf ops k = some d ∧ d < n ∧ ∀ j, j < m → j ≠ k → k ∉ tb tbl j → d ∉ slotsOf ops tbl j
  tail : ∀ k, k < ops.size → m ≤ k → ∀ x, x < k → x ∈ tb tbl k
theorem Chk.lenient {tbl : List (List Nat)} {m : Nat} (h : Chk n ops tbl m) : ChkL n ops tbl m := ⟨h.le, h.aft, h.lt, h.why, fun k hk => .inr (h.dst k hk), h.tail⟩
def drawChkL (n : Nat) (ops : Array Oper) (tbl : List (List Nat)) (m : Nat) : Bool :=
  Nat.ble m ops.size &&
  allB ops.size (fun k => (aftOf ops k).all (fun x => Nat.blt x k) && (tb tbl k).all fun x => Nat.blt x k && (nmem x (aftOf ops k) || (aftOf ops k).any fun j => nmem x (tb tbl j))) &&
  allB m (fun k => match dstOf ops k with
    | some d => Nat.blt d n && allB m fun j => Nat.beq j k || nmem k (tb tbl j) || !nmem d (slotsOf ops tbl j)
    | none => true) &&
  allB ops.size (fun k => Nat.blt k m || allB k fun x => nmem x (tb tbl k))

theorem drawChk_spec {tbl : List (List Nat)} {m : Nat} (h : drawChk n ops tbl m = true) : Chk n ops tbl m := by
  simp only [drawChk, Bool.and_eq_true] at h
  obtain ⟨⟨⟨h1, h2⟩, h3⟩, h4⟩ := h
  have h2' := allB_spec h2
  have h3' := allB_spec h3
  have h4' := allB_spec h4
  refine ⟨Nat.le_of_ble_eq_true h1, ?_, ?_, ?_, ?_, ?_⟩
  · intro k hk x hx
    have := h2' k hk
    simp only [Bool.and_eq_true, List.all_eq_true] at this
    exact blt_spec (this.1 x hx)
  · intro k hk x hx
    have := h2' k hk
    simp only [Bool.and_eq_true, List.all_eq_true] at this
    exact blt_spec (this.2 x hx).1
  · intro k hk x hx
    have := h2' k hk
    simp only [Bool.and_eq_true, List.all_eq_true, Bool.or_eq_true, List.any_eq_true] at this
    rcases (this.2 x hx).2 with h | ⟨j, hj, h⟩
    · exact .inl (nmem_iff.1 h)
    · exact .inr ⟨j, hj, nmem_iff.1 h⟩
  · intro k hk
    have := h3' k hk
    cases hd : dstOf ops k with
    | none => rw [hd] at this; cases this
    | some d =>
      rw [hd] at this
      simp only [Bool.and_eq_true] at this
      refine ⟨d, rfl, blt_spec this.1, fun j hj hjk hn hm => ?_⟩
      have := allB_spec this.2 j hj
      simp only [Bool.or_eq_true, Bool.not_eq_true'] at this
      rcases this with (h | h) | h
      · exact hjk (Nat.eq_of_beq_eq_true h)
      · exact hn (nmem_iff.1 h)
      · rw [nmem_iff.2 hm] at h; cases h
  · intro k hk hm x hx
    have := h4' k hk
    simp only [Bool.or_eq_true] at this
    rcases this with h | h
    · have := blt_spec h; omega
    · exact nmem_iff.1 (allB_spec h x hx)

theorem drawChkL_spec {tbl : List (List Nat)} {m : Nat} (h : drawChkL n ops tbl m = true) : ChkL n ops tbl m := by
  simp only [drawChkL, Bool.and_eq_true] at h
  obtain ⟨⟨⟨h1, h2⟩, h3⟩, h4⟩ := h
  have h2' := allB_spec h2
  have h3' := allB_spec h3
  have h4' := allB_spec h4
  refine ⟨Nat.le_of_ble_eq_true h1, ?_, ?_, ?_, ?_, ?_⟩
  · intro k hk x hx
    have := h2' k hk
    simp only [Bool.and_eq_true, List.all_eq_true] at this
    exact blt_spec (this.1 x hx)
  · intro k hk x hx
    have := h2' k hk
    simp only [Bool.and_eq_true, List.all_eq_true] at this
    exact blt_spec (this.2 x hx).1
  · intro k hk x hx
    have := h2' k hk
    simp only [Bool.and_eq_true, List.all_eq_true, Bool.or_eq_true, List.any_eq_true] at this
    rcases (this.2 x hx).2 with h | ⟨j, hj, h⟩
    · exact .inl (nmem_iff.1 h)
    · exact .inr ⟨j, hj, nmem_iff.1 h⟩
  · intro k hk
    have := h3' k hk
    cases hd : dstOf ops k with
    | none => exact .inl rfl
    | some d =>
      rw [hd] at this
      simp only [Bool.and_eq_true] at this
      refine .inr ⟨d, rfl, blt_spec this.1, fun j hj hjk hn hm => ?_⟩
      have := allB_spec this.2 j hj
      simp only [Bool.or_eq_true, Bool.not_eq_true'] at this
      rcases this with (h | h) | h
      · exact hjk (Nat.eq_of_beq_eq_true h)
      · exact hn (nmem_iff.1 h)
      · rw [nmem_iff.2 hm] at h; cases h
  · intro k hk hm x hx
    have := h4' k hk
    simp only [Bool.or_eq_true] at this
    rcases this with h | h
    · have := blt_spec h; omega
    · exact nmem_iff.1 (allB_spec h x hx)

/-- From the first operation of the tail on there is one order. -/
theorem wpAny_tail {tbl : List (List Nat)} {m : Nat} (hc : ChkL n ops tbl m) (f : Nat) : ∀ (k : Nat) (S : Array Bool) (a : Act) (w : World), m ≤ k → k + f = ops.size → Upto ops k S → wpOpsIn (Fx r) 0 P ops Q (List.range' k f) a w → wpAnyIn (Fx r) 0 P .any ops Q f S a w := by
  induction f with
  | zero =>
    intro k S a w hm hk hS h
    refine ⟨?_, h⟩
    apply List.eq_nil_iff_forall_not_mem.2
    intro i hi
    obtain ⟨h1, h2, _⟩ := ready_mem.1 hi
    rw [hS.2 i h1] at h2
    simp at h2
    omega
  | succ f ih =>
    intro k S a w hm hk hS h
    have hkr : k ∈ Region.ready .any ops S := ready_mem.2 ⟨by omega, by rw [hS.2 k (by omega)]; simp, fun x hx => by
      have hlt := hc.aft k (by omega) x hx
      have := hS.2 x (by omega)
      rw [Array.getD_eq_getD_getElem?, Array.getElem?_eq_getElem (by rw [hS.1]; omega)] at this ⊢
      simp only [Option.getD_some] at this ⊢
      rw [this]
      simpa using hlt⟩
    refine ⟨fun hn => by rw [hn] at hkr; (cases hkr), fun i hi => ?_⟩
    obtain ⟨h1, h2, h3⟩ := ready_mem.1 hi
    have hge : k ≤ i := by rw [hS.2 i h1] at h2; simp at h2; omega
    have hik : i = k := by
      rcases Nat.lt_or_ge k i with hlt | hle
      · exfalso
        have hmem := hc.tail i h1 (by omega) k hlt
        rcases hc.why i h1 k hmem with h | ⟨j, hj, hjk⟩
        · have := h3 k h
          have h4 := hS.2 k (by omega)
          rw [Array.getD_eq_getD_getElem?, Array.getElem?_eq_getElem (by rw [hS.1]; omega)] at this h4
          simp only [Option.getD_some] at this h4
          rw [this] at h4
          simp at h4
        · have hj2 := h3 j hj
          have hji := hc.aft i h1 j hj
          have hkj := hc.lt j (by omega) k hjk
          have h4 := hS.2 j (by omega)
          rw [Array.getD_eq_getD_getElem?, Array.getElem?_eq_getElem (by rw [hS.1]; omega)] at hj2 h4
          simp only [Option.getD_some] at hj2 h4
          rw [hj2] at h4
          simp at h4
          omega
      · omega
    subst hik
    rw [List.range'_succ, wpOpsIn_cons] at h
    refine wpOpIn_mono (fun a' w' h' => ih (i + 1) _ a' w' (by omega) (by omega) ⟨by simp [hS.1], fun j hj => ?_⟩ h') h
    have hsz : i < S.size := by rw [hS.1]; omega
    rw [Array.getD_eq_getD_getElem?]
    by_cases e : j = i
    · subst e
      rw [Array.getElem?_setIfInBounds_self_of_lt hsz]
      simp
    · rw [Array.getElem?_setIfInBounds_ne (by omega), ← Array.getD_eq_getD_getElem?, hS.2 j hj]
      simp only [decide_eq_decide]
      omega

def env (a : Act) : Nat → Value := fun t => (a.tmps[t]?).getD undef

def HAll (p : Nat → Prop) : Nat → Prop
  | 0 => True
  | k + 1 => HAll p k ∧ p k
theorem HAll_spec {p : Nat → Prop} {m : Nat} (h : HAll p m) : ∀ k, k < m → p k := by
  induction m with
  | zero => intro k hk; omega
  | succ m ih =>
    intro k hk
    by_cases e : k = m
    · subst e; exact h.2
    · exact ih h.1 k (by omega)
def AncAll (p : Nat → Prop) : List Nat → Prop
  | [] => True
  | j :: r => p j ∧ AncAll p r
theorem AncAll_of {p : Nat → Prop} {js : List Nat} (h : ∀ j ∈ js, p j) : AncAll p js := by
  induction js with
  | nil => trivial
  | cons j r ih => exact ⟨h j (List.mem_cons_self ..), ih fun x hx => h x (List.mem_cons_of_mem _ hx)⟩

/-- **Whatever order is drawn.** R: what a step may do to the world; G j: what is known once operation j is done, of its slot, of those of all that it waits for, and of the world. -/
theorem wpAny_draw {tbl : List (List Nat)} {m : Nat} (hc : ChkL n ops tbl m) (R : World → World → Prop) (hRt : ∀ {x y z}, R x y → R y z → R x z) (G : Nat → (Nat → Value) → World → Prop) (hG : ∀ j ρ x y, G j ρ x → R x y → G j ρ y) (w0 : World)
    (H : ∀ k, k < m → ∀ ρ w', R w0 w' → AncAll (fun j => G j (rs ops tbl j ρ) w') (tb tbl k) →
      V1 r n ds P ops Q k (lk ops tbl m l k ρ) w' fun l' w'' => (∃ v d, dstOf ops k = some d ∧ look l' d = some v ∧ R w' w'' ∧ G k (rs ops tbl k (upd ρ d v)) w'') ∨ (dstOf ops k = none ∧ R w' w'' ∧ G k (rs ops tbl k ρ) w''))
    (tail : ∀ ρ w', R w0 w' → HAll (fun j => G j (rs ops tbl j ρ) w') m → VL r n ds P ops Q m (lm ops m l ρ) w') (f : Nat) :
    ∀ (S : Array Bool) (a : Act) (w' : World), S.size = ops.size → ((List.range ops.size).filter fun j => !S.getD j true).length = f → (∀ k, k < ops.size → S.getD k true = true → ∀ x ∈ tb tbl k, S.getD x true = true) →
      R w0 w' → a.tmps.size = n → a.defers = ds → (∀ j, j < m → S.getD j true = true → G j (rs ops tbl j (env a)) w') →
      (∀ t v, look l t = some v → (∀ j, j < m → S.getD j true = true → dstOf ops j ≠ some t) → a.tmps[t]? = some v) → (∀ j, j < m → ∀ t, S.getD j true = true → dstOf ops j = some t → (a.tmps[t]?).isSome = true) →
      (∀ j, m ≤ j → j < ops.size → S.getD j true = false) → wpAnyIn (Fx r) 0 P .any ops Q f S a w' := by
  induction f with
  | zero =>
    intro S a w' hsz hcnt hdown hR hn hds hGs hbase hsome hlate
    have hall : ∀ j, j < ops.size → S.getD j true = true := by
      intro j hj
      cases hb : S.getD j true with
      | true => rfl
      | false =>
        have : j ∈ (List.range ops.size).filter fun j => !S.getD j true := List.mem_filter.2 ⟨List.mem_range.2 hj, by rw [hb]; rfl⟩
        rw [List.eq_nil_of_length_eq_zero hcnt] at this
        cases this
    have hm : m = ops.size := by
      rcases Nat.lt_or_ge m ops.size with h | h
      · have := hlate m (Nat.le_refl _) h
        rw [hall m h] at this; cases this
      · have := hc.le; omega
    have ht := tail (env a) w' hR (by
      have : ∀ k, k ≤ m → HAll (fun j => G j (rs ops tbl j (env a)) w') k := by
        intro k hk
        induction k with
        | zero => trivial
        | succ k ih => exact ⟨ih (by omega), hGs k (by omega) (hall k (by omega))⟩
      exact this m (Nat.le_refl _))
    have hh := ht a ⟨hn, hds, fun t v hv => ?_⟩
    · refine wpAny_tail hc 0 ops.size S a w' (by omega) (by omega) ⟨hsz, fun j hj => by rw [hall j hj]; simp [hj]⟩ ?_
      rw [hm, show ops.size - ops.size = 0 from by omega] at hh
      exact hh
    · rcases look_append hv with h | h
      · obtain ⟨h1, h2⟩ := look_map h
        obtain ⟨j, hj, hjd⟩ := List.mem_filterMap.1 h1
        have := hsome j (List.mem_range.1 hj) t (hall j (by have := List.mem_range.1 hj; omega)) hjd
        rw [h2]
        unfold env
        obtain ⟨u, hu⟩ := Option.isSome_iff_exists.1 this
        rw [hu]; rfl
      · obtain ⟨h1, h2⟩ := look_filter (p := fun t => allB m fun j => match dstOf ops j with | some d => !Nat.beq d t | none => true) h
        refine hbase t v h1 fun j hj _ hd => ?_
        have := allB_spec h2 j hj
        simp only [hd, Nat.beq_refl] at this
        cases this
  | succ f ih =>
    intro S a w' hsz hcnt hdown hR hn hds hGs hbase hsome hlate
    -- either all of the first part is done, or some of it waits
    by_cases hfull : ∀ j, j < m → S.getD j true = true
    · have ht := tail (env a) w' hR (by
        have : ∀ k, k ≤ m → HAll (fun j => G j (rs ops tbl j (env a)) w') k := by
          intro k hk
          induction k with
          | zero => trivial
          | succ k ih => exact ⟨ih (by omega), hGs k (by omega) (hfull k (by omega))⟩
        exact this m (Nat.le_refl _))
      have hh := ht a ⟨hn, hds, fun t v hv => ?_⟩
      · have hup : Upto ops m S := ⟨hsz, fun j hj => by
          by_cases hjm : j < m
          · rw [hfull j hjm]; simp [hjm]
          · rw [hlate j (by omega) hj]; simp; omega⟩
        have hf : m + (f + 1) = ops.size := by
          have e : (List.range ops.size).filter (fun j => !S.getD j true) = List.range' m (ops.size - m) := by
            have e0 : List.range ops.size = List.range' 0 m ++ List.range' m (ops.size - m) := by
              rw [List.range_eq_range']
              have := List.range'_append (s := 0) (m := m) (n := ops.size - m) (step := 1)
              simp only [Nat.one_mul, Nat.zero_add] at this
              rw [this]
              congr 1
              have := hc.le; omega
            rw [e0, List.filter_append]
            have e1 : (List.range' 0 m).filter (fun j => !S.getD j true) = [] := by
              apply List.filter_eq_nil_iff.2
              intro j hj
              have := (List.mem_range'_1.1 hj).2
              rw [hfull j (by omega)]; simp
            have e2 : (List.range' m (ops.size - m)).filter (fun j => !S.getD j true) = List.range' m (ops.size - m) := by
              apply List.filter_eq_self.2
              intro j hj
              have := List.mem_range'_1.1 hj
              rw [hlate j this.1 (by have := hc.le; omega)]; rfl
            rw [e1, e2]; rfl
          rw [e] at hcnt
          simp at hcnt
          omega
        refine wpAny_tail hc (f + 1) m S a w' (Nat.le_refl _) hf hup ?_
        rw [show f + 1 = ops.size - m from by omega]
        exact hh
      · rcases look_append hv with h | h
        · obtain ⟨h1, h2⟩ := look_map h
          obtain ⟨j, hj, hjd⟩ := List.mem_filterMap.1 h1
          have := hsome j (List.mem_range.1 hj) t (hfull j (List.mem_range.1 hj)) hjd
          rw [h2]
          unfold env
          obtain ⟨u, hu⟩ := Option.isSome_iff_exists.1 this
          rw [hu]; rfl
        · obtain ⟨h1, h2⟩ := look_filter (p := fun t => allB m fun j => match dstOf ops j with | some d => !Nat.beq d t | none => true) h
          refine hbase t v h1 fun j hj _ hd => ?_
          have := allB_spec h2 j hj
          simp only [hd, Nat.beq_refl] at this
          cases this
    · -- some of the first part waits: the least one is ready
      obtain ⟨j0, hj0, hS0⟩ : ∃ j, j < m ∧ S.getD j true = false := by
        apply Classical.byContradiction
        intro hno
        apply hfull
        intro j hj
        cases hb : S.getD j true with
        | true => rfl
        | false => exact absurd ⟨j, hj, hb⟩ hno
      have hle := hc.le
      have hmin : ∃ k, k < m ∧ S.getD k true = false ∧ ∀ x, x < k → S.getD x true = true := by
        have : ∀ d j, d = j → j < m → S.getD j true = false → ∃ k, k < m ∧ S.getD k true = false ∧ ∀ x, x < k → S.getD x true = true := by
          intro d
          induction d using Nat.strongRecOn with
          | _ d ihd =>
            rintro j rfl hj hS
            by_cases hex : ∃ x, x < d ∧ S.getD x true = false
            · obtain ⟨x, hx, hxS⟩ := hex
              exact ihd x hx x rfl (by omega) hxS
            · refine ⟨d, hj, hS, fun x hx => ?_⟩
              cases hb : S.getD x true with
              | true => rfl
              | false => exact absurd ⟨x, hx, hb⟩ hex
        exact this j0 j0 rfl hj0 hS0
      have getD_tf : ∀ x, x < ops.size → S.getD x true = true → S.getD x false = true := by
        intro x hx h
        rw [Array.getD_eq_getD_getElem?, Array.getElem?_eq_getElem (by rw [hsz]; exact hx)] at h ⊢
        exact h
      have getD_ft : ∀ x, S.getD x false = true → S.getD x true = true := by
        intro x h
        rw [Array.getD_eq_getD_getElem?] at h ⊢
        cases hb : S[x]? with
        | none => rfl
        | some b => rw [hb] at h; exact h
      obtain ⟨k0, hk0, hSk0, hk0min⟩ := hmin
      have hready : k0 ∈ Region.ready .any ops S := ready_mem.2 ⟨by omega, hSk0, fun x hx => by
        have := hc.aft k0 (by omega) x hx
        exact getD_tf x (by omega) (hk0min x this)⟩
      refine ⟨fun hn0 => by rw [hn0] at hready; (cases hready), fun k hk => ?_⟩
      obtain ⟨hklt, hkS, hkaft⟩ := ready_mem.1 hk
      have htb : ∀ x ∈ tb tbl k, S.getD x true = true := by
        intro x hx
        rcases hc.why k hklt x hx with h | ⟨j, hj, hjx⟩
        · exact getD_ft x (hkaft x h)
        · exact hdown j (by have := hc.aft k hklt j hj; omega) (getD_ft j (hkaft j hj)) x hjx
      have hkm : k < m := by
        rcases Nat.lt_or_ge k m with h | h
        · exact h
        · have := htb j0 (hc.tail k hklt h j0 (by omega))
          rw [hS0] at this; cases this
      have hanc : AncAll (fun j => G j (rs ops tbl j (env a)) w') (tb tbl k) := AncAll_of fun j hj => hGs j (by have := hc.lt k hklt j hj; omega) (htb j hj)
      have hV := H k hkm (env a) w' hR hanc
      have hHas : Has n ds (lk ops tbl m l k (env a)) a := by
        refine ⟨hn, hds, fun t v hv => ?_⟩
        rcases look_append hv with h | h
        · obtain ⟨h1, h2⟩ := look_map h
          obtain ⟨j, hj, hjd⟩ := List.mem_filterMap.1 h1
          have := hsome j (by have := hc.lt k hklt j hj; omega) t (htb j hj) hjd
          rw [h2]
          unfold env
          obtain ⟨u, hu⟩ := Option.isSome_iff_exists.1 this
          rw [hu]; rfl
        · obtain ⟨h1, h2⟩ := look_filter (p := fun t => baseOk ops tbl m k t) h
          refine hbase t v h1 fun j hj hjS hjd => ?_
          have := allB_spec h2 j hj
          simp only [hjd, Nat.beq_refl, Bool.not_true, Bool.false_or] at this
          have hkj := hdown j (by omega) hjS k (nmem_iff.1 this)
          rw [hkS] at hkj; cases hkj
      have h1 := hV a hHas
      have hks : k < S.size := by rw [hsz]; exact hklt
      have getSet : ∀ j, (S.setIfInBounds k true).getD j true = if j = k then true else S.getD j true := by
        intro j
        rw [Array.getD_eq_getD_getElem?]
        by_cases e : j = k
        · subst e; rw [Array.getElem?_setIfInBounds_self_of_lt hks, if_pos rfl]; rfl
        · rw [Array.getElem?_setIfInBounds_ne (by omega), if_neg e, Array.getD_eq_getD_getElem?]
      have hfew : ((List.range ops.size).filter fun j => !(S.setIfInBounds k true).getD j true).length = f := by
        have hpos : k ∈ (List.range ops.size).filter fun j => !S.getD j true := List.mem_filter.2 ⟨List.mem_range.2 hklt, by rw [hkS]; rfl⟩
        have hnd : ((List.range ops.size).filter fun j => !S.getD j true).Nodup := List.Pairwise.filter _ List.nodup_range
        have e : ((List.range ops.size).filter fun j => !(S.setIfInBounds k true).getD j true) = ((List.range ops.size).filter fun j => !S.getD j true).erase k := by
          rw [hnd.erase_eq_filter, List.filter_filter]
          apply List.filter_congr
          intro j _
          rw [getSet j]
          by_cases e : j = k
          · subst e; simp
          · simp [e]
        rw [e, List.length_erase_of_mem hpos, hcnt]
        rfl
      have hdn' : ∀ j, j < ops.size → (S.setIfInBounds k true).getD j true = true → ∀ x ∈ tb tbl j, (S.setIfInBounds k true).getD x true = true := by
        intro j hj hjS x hx
        rw [getSet j] at hjS
        rw [getSet x]
        by_cases ex : x = k
        · rw [if_pos ex]
        · rw [if_neg ex]
          by_cases ej : j = k
          · subst ej; exact htb x hx
          · rw [if_neg ej] at hjS; exact hdown j hj hjS x hx
      rcases hc.dst k hkm with hd0 | ⟨d, hd, hdn, hclob⟩
      · obtain ⟨o, ho, hod⟩ : ∃ o, ops[k]? = some o ∧ o.dst = none := by
          refine ⟨ops[k], Array.getElem?_eq_getElem hklt, ?_⟩
          have := hd0
          unfold dstOf at this
          rw [Array.getElem?_eq_getElem hklt] at this
          exact this
        have h2 := wpOpIn_put0 ho hod (fun a' w'' ⟨l', hl', _⟩ => hl'.defers.trans hds.symm) h1
        refine wpOpIn_mono ?_ h2
        rintro a' w'' ⟨⟨l', hl', hK⟩, v', hv'⟩
        rcases hK with ⟨v, d', hd', _⟩ | ⟨_, hR'', hGk⟩
        · rw [hd0] at hd'; cases hd'
        rw [show a' = a from hv']
        refine ih _ a _ (by simp [hsz]) hfew hdn' (hRt hR hR'') hn hds ?_ ?_ ?_ ?_
        · intro j hj hjS
          by_cases ej : j = k
          · subst ej; exact hGk
          · rw [getSet j, if_neg ej] at hjS; exact hG _ _ _ _ (hGs j hj hjS) hR''
        · intro t u hu hno
          exact hbase t u hu fun j hj hjS => hno j hj (by rw [getSet j]; split; rfl; exact hjS)
        · intro j hj t hjS hjd
          by_cases ej : j = k
          · subst ej; rw [hd0] at hjd; cases hjd
          · rw [getSet j, if_neg ej] at hjS; exact hsome j hj t hjS hjd
        · intro j hj hjs
          rw [getSet j, if_neg (by omega)]
          exact hlate j hj hjs
      obtain ⟨o, ho, hod⟩ : ∃ o, ops[k]? = some o ∧ o.dst = some d := Option.bind_eq_some_iff.1 hd
      have h2 := wpOpIn_put ho hod (fun a' w'' ⟨l', hl', _⟩ => hl'.defers.trans hds.symm) h1
      refine wpOpIn_mono ?_ h2
      rintro a' w'' ⟨⟨l', hl', hK⟩, v', rfl⟩
      obtain ⟨v, d', hd', hlv, hR'', hGk⟩ : ∃ v d', dstOf ops k = some d' ∧ look l' d' = some v ∧ R w' w'' ∧ G k (rs ops tbl k (upd (env a) d' v)) w'' := by
        rcases hK with h | ⟨hd0, _⟩
        · exact h
        · rw [hd] at hd0; cases hd0
      rw [hd] at hd'
      simp only [Option.some.injEq] at hd'
      subst hd'
      have hv' : v = v' := by
        have := hl'.get d v hlv
        simp only [Act.put] at this
        rw [Array.getElem?_setIfInBounds_self_of_lt (by rw [hn]; exact hdn)] at this
        simpa using this.symm
      subst hv'
      have hput : ∀ t, t ≠ d → (a.put (some d) v).tmps[t]? = a.tmps[t]? := fun t ht => by
        simp only [Act.put]; exact Array.getElem?_setIfInBounds_ne (by omega)
      have hputd : (a.put (some d) v).tmps[d]? = some v := by
        simp only [Act.put]; exact Array.getElem?_setIfInBounds_self_of_lt (by rw [hn]; exact hdn)
      have henv : env (a.put (some d) v) = upd (env a) d v := by
        funext t
        unfold env upd
        cases e : Nat.beq d t with
        | true =>
          have : d = t := Nat.eq_of_beq_eq_true e
          subst this
          rw [hputd]; rfl
        | false =>
          have hne : d ≠ t := Nat.ne_of_beq_eq_false e
          rw [hput t (by omega)]; rfl
      refine ih _ _ _ (by simp [hsz]) hfew hdn' (hRt hR hR'') (by simp [Act.put, hn]) (by simp [Act.put, hds]) ?_ ?_ ?_ ?_
      · intro j hj hjS
        rw [henv]
        by_cases ej : j = k
        · subst ej; exact hGk
        · rw [getSet j, if_neg ej] at hjS
          have hnk : k ∉ tb tbl j := fun hmem => by
            have := hdown j (by omega) hjS k hmem
            rw [hkS] at this; cases this
          have hnd := hclob j hj ej hnk
          have e : rs ops tbl j (upd (env a) d v) = rs ops tbl j (env a) := by
            funext t
            unfold rs upd
            cases hm : nmem t (slotsOf ops tbl j) with
            | false => rfl
            | true =>
              have hmem := nmem_iff.1 hm
              cases e : Nat.beq d t with
              | true =>
                have : d = t := Nat.eq_of_beq_eq_true e
                subst this
                exact absurd hmem hnd
              | false => rfl
          rw [e]
          exact hG _ _ _ _ (hGs j hj hjS) hR''
      · intro t u hu hno
        have hne : t ≠ d := fun e => hno k hkm (by rw [getSet k, if_pos rfl]) (by rw [e]; exact hd)
        rw [hput t hne]
        exact hbase t u hu fun j hj hjS => hno j hj (by rw [getSet j]; split; rfl; exact hjS)
      · intro j hj t hjS hjd
        by_cases et : t = d
        · rw [et, hputd]; rfl
        · rw [hput t et]
          by_cases ej : j = k
          · subst ej; rw [hd] at hjd; simp only [Option.some.injEq] at hjd; exact absurd hjd.symm et
          · rw [getSet j, if_neg ej] at hjS
            exact hsome j hj t hjS hjd
      · intro j hj hjs
        rw [getSet j, if_neg (by omega)]
        exact hlate j hj hjs

theorem drew_step (w : World) : Step No w w.drew := ⟨rfl, rfl, rfl, Nat.le_refl _, fun _ _ _ => rfl⟩

theorem HAll_map {p q : Nat → Prop} {m : Nat} (h : ∀ k, p k → q k) (hp : HAll p m) : HAll q m := by
  induction m with
  | zero => trivial
  | succ m ih => exact ⟨ih hp.1, h _ hp.2⟩
theorem VC_anyL {id : Nat} (tbl : List (List Nat)) (m : Nat) (hm : P.follows .mixedOrders = true) (hc : ChkL n ops tbl m) (R : World → World → Prop) (hRr : ∀ x, R x x) (hRt : ∀ {x y z}, R x y → R y z → R x z) (G : Nat → (Nat → Value) → World → Prop) (hG : ∀ j ρ x y, G j ρ x → R x y → G j ρ y)
    (H : HAll (fun k => ∀ ρ w', R w.drew w' → AncAll (fun j => G j (rs ops tbl j ρ) w') (tb tbl k) →
      V1 r n ds P ops Q k (lk ops tbl m l k ρ) w' fun l' w'' => (∃ v d, dstOf ops k = some d ∧ look l' d = some v ∧ R w' w'' ∧ G k (rs ops tbl k (upd ρ d v)) w'') ∨ (dstOf ops k = none ∧ R w' w'' ∧ G k (rs ops tbl k ρ) w'')) m)
    (tail : ∀ ρ w', R w.drew w' → HAll (fun j => G j (rs ops tbl j ρ) w') m → VL r n ds P ops Q m (lm ops m l ρ) w') : VC r n ds P Q (.region id ops true) l w := by
  intro a ha
  refine wpIn_region_any hm ?_
  have hrep : ∀ j, (Array.replicate ops.size false).getD j true = decide (ops.size ≤ j) := by
    intro j
    rw [Array.getD_eq_getD_getElem?, Array.getElem?_replicate]
    by_cases h : j < ops.size
    · rw [if_pos h]; simp; omega
    · rw [if_neg h]; simp; omega
  refine wpAny_draw hc R hRt G hG w.drew (HAll_spec H) tail ops.size _ a _ (by simp) ?_ ?_ (hRr _) ha.size ha.defers ?_ (fun t v hv _ => ha.get t v hv) ?_ ?_
  · have : (List.range ops.size).filter (fun j => !(Array.replicate ops.size false).getD j true) = List.range ops.size := List.filter_eq_self.2 fun j hj => by
      rw [hrep j]
      have := List.mem_range.1 hj
      simp; omega
    rw [this]; simp
  · intro k hk h
    rw [hrep k] at h; simp at h; omega
  · intro j hj h
    rw [hrep j] at h; simp at h; have := hc.le; omega
  · intro j hj t h
    rw [hrep j] at h; simp at h; have := hc.le; omega
  · intro j _ hj
    rw [hrep j]; simp; omega
theorem VC_any {id : Nat} (tbl : List (List Nat)) (m : Nat) (hm : P.follows .mixedOrders = true) (hchk : drawChk n ops tbl m = true) (R : World → World → Prop) (hRr : ∀ x, R x x) (hRt : ∀ {x y z}, R x y → R y z → R x z) (G : Nat → (Nat → Value) → World → Prop) (hG : ∀ j ρ x y, G j ρ x → R x y → G j ρ y)
    (H : HAll (fun k => ∀ ρ w', R w.drew w' → AncAll (fun j => G j (rs ops tbl j ρ) w') (tb tbl k) →
      V1 r n ds P ops Q k (lk ops tbl m l k ρ) w' fun l' w'' => ∃ v d, dstOf ops k = some d ∧ look l' d = some v ∧ R w' w'' ∧ G k (rs ops tbl k (upd ρ d v)) w'') m)
    (tail : ∀ ρ w', R w.drew w' → HAll (fun j => G j (rs ops tbl j ρ) w') m → VL r n ds P ops Q m (lm ops m l ρ) w') : VC r n ds P Q (.region id ops true) l w := by
  refine VC_anyL tbl m hm (drawChk_spec hchk).lenient R hRr hRt G hG (HAll_map (fun k h ρ w' h1 h2 a ha => ?_) H) tail
  refine wpOpIn_mono ?_ (h ρ w' h1 h2 a ha)
  rintro a' w'' ⟨l', hl', hk⟩
  exact ⟨l', hl', .inl hk⟩
end
end Go.Vc
