/- A small calculus over the kit's rules 'wpIn': a frame is known by a short list of its live slots, a region by the number of its next operation; plain operations are run by the kernel. Nothing here speaks of one program. -/
import Derived.WalkKit
import Derived.CallsIn
import Derived.OrdersIn
import Derived.RangeFuncIn
import Derived.KernelRfl
set_option linter.unusedVariables false
set_option linter.unusedSimpArgs false
namespace Go.Vc
open Go.RowKit

/-- Everything is allowed; 'r': the round of a range over a function in which the frame runs. -/
def Fx (r : Option Nat) : Fence := { Fence.wide with round := r }
theorem Fx_none : Fx none = Fence.wide := rfl
theorem Fx_some (l : Nat) : Fx (some l) = Fence.wide.inRound l := rfl
theorem callsIn_Fx {r : Option Nat} {n : Nat} {P : Program} {f : FuncId} {args : Array Value} {w : World} {R : Ending → World → Prop} (h : Calls P f args w R) : CallsIn (Fx r) n P f args w R := by
  have := (callsIn_wide (n := n)).2 h
  exact this

theorem blt_spec {a b : Nat} (h : Nat.blt a b = true) : a < b := Nat.le_of_ble_eq_true h

/-! ### 1. What is known of a frame -/
def look : List (Nat × Value) → Nat → Option Value
  | [], _ => none
  | (k, v) :: r, t => bif Nat.beq k t then some v else look r t

def Sub : List (Nat × Value) → List (Nat × Value) → Prop
  | [], _ => True
  | (t, v) :: r, l => look l t = some v ∧ Sub r l

structure Has (n : Nat) (ds : List Deferred) (l : List (Nat × Value)) (a : Act) : Prop where
  size : a.tmps.size = n
  defers : a.defers = ds
  get : ∀ t v, look l t = some v → a.tmps[t]? = some v

theorem Sub.spec {l' l : List (Nat × Value)} (h : Sub l' l) : ∀ t v, look l' t = some v → look l t = some v := by
  induction l' with
  | nil => intro t v h'; cases h'
  | cons x r ih =>
    obtain ⟨k, u⟩ := x
    obtain ⟨h1, h2⟩ := h
    intro t v h'
    simp only [look] at h'
    cases e : Nat.beq k t with
    | true =>
      rw [e] at h'
      cases h'
      have : k = t := Nat.eq_of_beq_eq_true e
      rw [← this]; exact h1
    | false => rw [e] at h'; exact ih h2 t v h'

theorem Has.sub {n : Nat} {ds : List Deferred} {l l' : List (Nat × Value)} {a : Act} (h : Has n ds l a) (hs : Sub l' l) : Has n ds l' a :=
  ⟨h.size, h.defers, fun t v hv => h.get t v (hs.spec t v hv)⟩

theorem Has.put {n : Nat} {ds : List Deferred} {l : List (Nat × Value)} {a : Act} (h : Has n ds l a) (d : Nat) (hd : d < n) (v : Value) :
    Has n ds ((d, v) :: l) (a.put (some d) v) := by
  refine ⟨by simp [Act.put, h.size], by simp [Act.put, h.defers], fun t u hu => ?_⟩
  simp only [look] at hu
  simp only [Act.put]
  cases e : Nat.beq d t with
  | true =>
    rw [e] at hu; cases hu
    have : d = t := Nat.eq_of_beq_eq_true e
    subst this
    rw [Array.getElem?_setIfInBounds_self_of_lt (by rw [h.size]; exact hd)]
  | false =>
    rw [e] at hu
    have hne : d ≠ t := Nat.ne_of_beq_eq_false e
    rw [Array.getElem?_setIfInBounds_ne hne]
    exact h.get t u hu

def evL (l : List (Nat × Value)) : Operand → Value
  | .tmp t => (look l t).getD undef
  | .const v => v
  | .global g => .pointer (some ⟨g, 0, none⟩)
  | .func f => .func (.func f) #[] #[]

def opIn (l : List (Nat × Value)) : Operand → Bool
  | .tmp t => (look l t).isSome
  | _ => true

theorem Has.eval {n : Nat} {ds : List Deferred} {l : List (Nat × Value)} {a : Act} (h : Has n ds l a) (x : Operand) (hx : opIn l x = true) : a.eval x = evL l x := by
  cases x with
  | tmp t =>
    simp only [opIn] at hx
    obtain ⟨v, hv⟩ := Option.isSome_iff_exists.1 hx
    simp [Act.eval, evL, hv, h.get t v hv]
  | const v => rfl
  | global g => rfl
  | func f => rfl

/-! ### 2. Operations that look at no memory, run by the kernel -/
def pureVal {α : Type} (P : Program) : Sem α → Option α
  | .pure a => some a
  | .program k => pureVal P (k P)
  | _ => none

theorem pureVal_run {α : Type} {P : Program} {s : Sem α} {a : α} (h : pureVal P s = some a) (w : World) : s.run P w = .ok a w := by
  induction s with
  | pure x => simp only [pureVal, Option.some.injEq] at h; subst h; rfl
  | program k ih => simp only [pureVal] at h; simp only [Sem.run]; exact ih P h
  | load m x k ih => cases h
  | store m x v k ih => cases h
  | new o k ih => cases h
  | shape r k ih => cases h
  | freeze x n k ih => cases h
  | frozen x k ih => cases h
  | getObj r k ih => cases h
  | setObj r o k ih => cases h
  | choose q k ih => cases h
  | sys c k ih => cases h
  | mark m k ih => cases h
  | halt x => cases h

def opSane : Op → Bool
  | .select .. | .defer _ => false
  | _ => true

/-- Is the operation's guard met? (none: not known) -/
def guardOk (ops : Array Oper) (l : List (Nat × Value)) (o : Oper) : Option Bool :=
  match o.guard with
  | none => some true
  | some (j, want) =>
    match (ops[j]?).bind (·.dst) with
    | none => some false
    | some d =>
      match look l d with
      | some (.bool b) => some (b == want)
      | some _ => some false
      | none => none

theorem guardOk_spec {n : Nat} {ds : List Deferred} {l : List (Nat × Value)} {a : Act} (h : Has n ds l a) {ops : Array Oper} {o : Oper} {b : Bool} (hg : guardOk ops l o = some b) :
    Region.wanted o (yielded ops a.tmps) = b := by
  unfold guardOk at hg
  unfold Region.wanted
  cases hgd : o.guard with
  | none => rw [hgd] at hg; simp only [Option.some.injEq] at hg; exact hg
  | some jw =>
    obtain ⟨j, want⟩ := jw
    rw [hgd] at hg
    simp only at hg ⊢
    unfold yielded
    cases hd : (ops[j]?).bind (·.dst) with
    | none =>
      rw [hd] at hg
      simp only [Option.some.injEq] at hg
      subst hg
      simp
    | some d =>
      rw [hd] at hg
      simp only [Option.bind_some] at hg ⊢
      cases hl : look l d with
      | none => rw [hl] at hg; cases hg
      | some v =>
        rw [hl] at hg
        rw [h.get d v hl]
        cases v <;> simp only [Option.some.injEq] at hg <;> subst hg <;> simp

def listed (l : List (Nat × Value)) (o : Oper) : Bool := opSane o.op && o.op.operands.all (opIn l)

theorem Has.exec {n : Nat} {ds : List Deferred} {l : List (Nat × Value)} {a : Act} (h : Has n ds l a) {o : Oper} (ho : listed l o = true) (ro : Option Nat) : o.semAt ro a.eval = execOp (evL l) o := by
  simp only [listed, Bool.and_eq_true] at ho
  obtain ⟨h1, h2⟩ := ho
  have hd : ∀ c, o.op ≠ .defer c := fun c e => by rw [e] at h1; cases h1
  have hs : ∀ cs b, o.op ≠ .select cs b := fun cs b e => by rw [e] at h1; cases h1
  rw [Oper.semAt_eq ro _ o hd]
  exact execOp_congr o hs fun x hx => h.eval x (Array.all_eq_true_iff_forall_mem.1 h2 x hx)

def pureOp (P : Program) (ops : Array Oper) (l : List (Nat × Value)) (o : Oper) : Option Value :=
  match guardOk ops l o with
  | some true =>
    bif listed l o then
      match pureVal P (execOp (evL l) o) with
      | some (.value v) => some v
      | some .skip => some undef
      | _ => none
    else none
  | some false => some undef
  | none => none

def pureRun (P : Program) (n : Nat) (ops : Array Oper) : Nat → Nat → List (Nat × Value) → Option (List (Nat × Value))
  | 0, _, l => some l
  | k + 1, i, l =>
    match ops[i]? with
    | none => none
    | some o =>
      match pureOp P ops l o with
      | none => none
      | some v =>
        match o.dst with
        | some d => bif Nat.blt d n then pureRun P n ops k (i + 1) ((d, v) :: l) else none
        | none => pureRun P n ops k (i + 1) l

def keep : List Nat → List (Nat × Value) → Option (List (Nat × Value))
  | [], _ => some []
  | t :: r, l => match look l t with
    | some v => match keep r l with
      | some l' => some ((t, v) :: l')
      | none => none
    | none => none

theorem keep_sub {ks : List Nat} {l l' : List (Nat × Value)} (h : keep ks l = some l') : Sub l' l := by
  induction ks generalizing l' with
  | nil => simp only [keep, Option.some.injEq] at h; subst h; trivial
  | cons t r ih =>
    simp only [keep] at h
    cases hl : look l t with
    | none => rw [hl] at h; cases h
    | some v =>
      rw [hl] at h
      cases hk : keep r l with
      | none => rw [hk] at h; cases h
      | some l2 =>
        rw [hk] at h
        simp only [Option.some.injEq] at h
        subst h
        exact ⟨hl, ih hk⟩

/-! ### 3. The judgments -/
section
variable {r : Option Nat} {n : Nat} {ds : List Deferred} {P : Program} {ops : Array Oper} {Q : Exit → Act → World → Prop} {l : List (Nat × Value)} {w : World} {i : Nat}

def VL (r : Option Nat) (n : Nat) (ds : List Deferred) (P : Program) (ops : Array Oper) (Q : Exit → Act → World → Prop) (i : Nat) (l : List (Nat × Value)) (w : World) : Prop :=
  ∀ a, Has n ds l a → wpOpsIn (Fx r) 0 P ops Q (List.range' i (ops.size - i)) a w
def VC (r : Option Nat) (n : Nat) (ds : List Deferred) (P : Program) (Q : Exit → Act → World → Prop) (c : Code) (l : List (Nat × Value)) (w : World) : Prop :=
  ∀ a, Has n ds l a → c.wpIn (Fx r) 0 P Q a w
def VQ (n : Nat) (ds : List Deferred) (Q : Exit → Act → World → Prop) (e : Exit) (l : List (Nat × Value)) (w : World) : Prop :=
  ∀ a, Has n ds l a → Q e a w
/-- One operation, what follows behind a continuation on knowledge. -/
def V1 (r : Option Nat) (n : Nat) (ds : List Deferred) (P : Program) (ops : Array Oper) (Q : Exit → Act → World → Prop) (i : Nat) (l : List (Nat × Value)) (w : World) (K : List (Nat × Value) → World → Prop) : Prop :=
  ∀ a, Has n ds l a → wpOpIn (Fx r) 0 P ops Q i (fun a' w' => ∃ l', Has n ds l' a' ∧ K l' w') a w

theorem VL_of_V1 (hi : Nat.blt i ops.size = true) (h : V1 r n ds P ops Q i l w fun l' w' => VL r n ds P ops Q (i + 1) l' w') : VL r n ds P ops Q i l w := by
  intro a ha
  have hlt : i < ops.size := blt_spec hi
  have : List.range' i (ops.size - i) = i :: List.range' (i + 1) (ops.size - (i + 1)) := by
    rw [show ops.size - i = (ops.size - (i + 1)) + 1 from by omega, List.range'_succ]
  rw [this, wpOpsIn_cons]
  exact wpOpIn_mono (fun a' w' ⟨l', h1, h2⟩ => h2 a' h1) (h a ha)

theorem VL_sub {l' : List (Nat × Value)} (hs : Sub l' l) (h : VL r n ds P ops Q i l' w) : VL r n ds P ops Q i l w := fun a ha => h a (ha.sub hs)
theorem VC_sub {c : Code} {l' : List (Nat × Value)} (hs : Sub l' l) (h : VC r n ds P Q c l' w) : VC r n ds P Q c l w := fun a ha => h a (ha.sub hs)
theorem VC_keep {c : Code} (ks : List Nat) (l' : List (Nat × Value)) (hs : keep ks l = some l') (h : VC r n ds P Q c l' w) : VC r n ds P Q c l w := fun a ha => h a (ha.sub (keep_sub hs))
theorem VL_keep (ks : List Nat) (l' : List (Nat × Value)) (hs : keep ks l = some l') (h : VL r n ds P ops Q i l' w) : VL r n ds P ops Q i l w := fun a ha => h a (ha.sub (keep_sub hs))

/-- The outcome of an operation that is carried out. -/
theorem V1_run {o : Oper} (ho : ops[i]? = some o) (hg : guardOk ops l o = some true) (hl : listed l o = true) {K : List (Nat × Value) → World → Prop}
    (h : ∀ a, Has n ds l a → o.uponIn (Fx r) 0 P a (fun a' w' => ∃ l', Has n ds l' a' ∧ K l' w') Q ((execOp (evL l) o).run P w)) : V1 r n ds P ops Q i l w K := by
  intro a ha
  unfold wpOpIn
  simp only [ho, guardOk_spec ha hg, if_true]
  refine ⟨fun _ _ => trivial, ?_⟩
  rw [show (Fx r).round = r from rfl, ha.exec hl r]
  exact h a ha

theorem V1_pure {o : Oper} {v : Value} {d : Nat} (ho : ops[i]? = some o) (hv : pureOp P ops l o = some v) (hd : o.dst = some d) (hdn : d < n) {K : List (Nat × Value) → World → Prop} (h : K ((d, v) :: l) w) : V1 r n ds P ops Q i l w K := by
  unfold pureOp at hv
  cases hg : guardOk ops l o with
  | none => rw [hg] at hv; cases hv
  | some b =>
    rw [hg] at hv
    cases b with
    | false =>
      simp only [Option.some.injEq] at hv
      subst hv
      intro a ha
      unfold wpOpIn
      simp only [ho, guardOk_spec ha hg, Bool.false_eq_true, if_false]
      exact ⟨fun _ _ => trivial, _, by rw [hd]; exact ha.put d hdn _, h⟩
    | true =>
      simp only at hv
      cases hl : listed l o with
      | false => rw [hl] at hv; cases hv
      | true =>
        rw [hl] at hv
        simp only [cond_true] at hv
        refine V1_run ho hg hl fun a ha => ?_
        cases hp : pureVal P (execOp (evL l) o) with
        | none => rw [hp] at hv; cases hv
        | some x =>
          rw [hp] at hv
          rw [pureVal_run hp w]
          cases x <;> simp only [Option.some.injEq, reduceCtorEq] at hv
          all_goals
            subst hv
            exact ⟨_, by rw [hd]; exact ha.put d hdn _, h⟩

theorem V1_pure0 {o : Oper} {v : Value} (ho : ops[i]? = some o) (hv : pureOp P ops l o = some v) (hd : o.dst = none) {K : List (Nat × Value) → World → Prop} (h : K l w) : V1 r n ds P ops Q i l w K := by
  unfold pureOp at hv
  cases hg : guardOk ops l o with
  | none => rw [hg] at hv; cases hv
  | some b =>
    rw [hg] at hv
    cases b with
    | false =>
      intro a ha
      unfold wpOpIn
      simp only [ho, guardOk_spec ha hg, Bool.false_eq_true, if_false]
      exact ⟨fun _ _ => trivial, _, by rw [hd]; exact ha, h⟩
    | true =>
      simp only at hv
      cases hl : listed l o with
      | false => rw [hl] at hv; cases hv
      | true =>
        rw [hl] at hv
        simp only [cond_true] at hv
        refine V1_run ho hg hl fun a ha => ?_
        cases hp : pureVal P (execOp (evL l) o) with
        | none => rw [hp] at hv; cases hv
        | some x =>
          rw [hp] at hv
          rw [pureVal_run hp w]
          cases x <;> simp only [Option.some.injEq, reduceCtorEq] at hv
          all_goals exact ⟨_, by rw [hd]; exact ha, h⟩

theorem VL_pureRun (k : Nat) : ∀ (i : Nat) (l l' : List (Nat × Value)), pureRun P n ops k i l = some l' → VL r n ds P ops Q (i + k) l' w → VL r n ds P ops Q i l w := by
  induction k with
  | zero => intro i l l' h next; simp only [pureRun, Option.some.injEq] at h; subst h; exact next
  | succ k ih =>
    intro i l l' h next
    simp only [pureRun] at h
    cases ho : ops[i]? with
    | none => rw [ho] at h; cases h
    | some o =>
      rw [ho] at h
      simp only at h
      have hi : Nat.blt i ops.size = true := by
        obtain ⟨hlt, _⟩ := Array.getElem?_eq_some_iff.1 ho
        exact Nat.ble_eq_true_of_le hlt
      have e : i + (k + 1) = (i + 1) + k := by omega
      rw [e] at next
      cases hp : pureOp P ops l o with
      | none => rw [hp] at h; cases h
      | some v =>
        rw [hp] at h
        simp only at h
        cases hd : o.dst with
        | some d =>
          rw [hd] at h
          simp only at h
          cases hb : Nat.blt d n with
          | false => rw [hb] at h; cases h
          | true =>
            rw [hb] at h
            simp only [cond_true] at h
            exact VL_of_V1 hi (V1_pure ho hp hd (blt_spec hb) (ih (i + 1) _ _ h next))
        | none =>
          rw [hd] at h
          simp only at h
          exact VL_of_V1 hi (V1_pure0 ho hp hd (ih (i + 1) _ _ h next))

/-- Plain operations from number i up to number j; what is kept behind them. -/
theorem VL_pure (j : Nat) (ks : List Nat) (l' : List (Nat × Value)) (h : (pureRun P n ops (j - i) i l).bind (keep ks) = some l') (hj : Nat.ble i j = true) (next : VL r n ds P ops Q j l' w) : VL r n ds P ops Q i l w := by
  obtain ⟨l2, h2, h3⟩ := Option.bind_eq_some_iff.1 h
  have hle : i ≤ j := Nat.le_of_ble_eq_true hj
  refine VL_pureRun (j - i) i l l2 h2 ?_
  rw [show i + (j - i) = j from by omega]
  exact VL_sub (keep_sub h3) next

theorem VL_end (hi : Nat.ble ops.size i = true) (h : VQ n ds Q .normal l w) : VL r n ds P ops Q i l w := by
  intro a ha
  have : ops.size - i = 0 := by have := Nat.le_of_ble_eq_true hi; omega
  rw [this]
  exact h a ha

/-! ### 4. Control -/
variable {c x y : Code}
theorem VC_seq (h : VC r n ds P (Exit.then (y.wpIn (Fx r) 0 P Q) Q) x l w) : VC r n ds P Q (.seq x y) l w := fun a ha => wpIn_seq (h a ha)
theorem VC_skip (h : VQ n ds Q .normal l w) : VC r n ds P Q .skip l w := fun a ha => wpIn_skip (h a ha)
theorem VC_label {t : Nat} (h : VQ n ds Q .normal l w) : VC r n ds P Q (.label t) l w := fun a ha => wpIn_label (h a ha)
theorem VC_exit {id : Nat} (h : VQ n ds Q (.exit id) l w) : VC r n ds P Q (.exit id) l w := fun a ha => wpIn_exit (h a ha)
theorem VC_ret (h : VQ n ds Q .ret l w) : VC r n ds P Q .ret l w := fun a ha => wpIn_ret (h a ha)
theorem VC_block {id : Nat} (h : VC r n ds P (Exit.inBlock id Q) c l w) : VC r n ds P Q (.block id c) l w := fun a ha => wpIn_block (h a ha)
theorem VC_region {id : Nat} (h : VL r n ds P ops Q 0 l w) : VC r n ds P Q (.region id ops false) l w := by
  intro a ha
  refine wpIn_region ?_
  have := h a ha
  rw [List.range_eq_range']
  exact this

def opV (l : List (Nat × Value)) (x : Operand) : Option Value := bif opIn l x then some (evL l x) else none
theorem opV_spec {a : Act} (ha : Has n ds l a) {x : Operand} {v : Value} (h : opV l x = some v) : a.eval x = v := by
  unfold opV at h
  cases hx : opIn l x with
  | false => rw [hx] at h; cases h
  | true => rw [hx] at h; simp only [cond_true, Option.some.injEq] at h; rw [ha.eval x hx]; exact h

theorem VC_cond {o : Operand} (b : Bool) (ho : opV l o = some (.bool b)) (ht : b = true → VC r n ds P Q x l w) (hf : b = false → VC r n ds P Q y l w) : VC r n ds P Q (.cond o x y) l w :=
  fun a ha => wpIn_cond_split (opV_spec ha ho) (fun e => ht e a ha) (fun e => hf e a ha)
theorem VC_dec {o : Operand} (p : Prop) [Decidable p] (ho : opV l o = some (.bool (decide p))) (ht : p → VC r n ds P Q x l w) (hf : ¬p → VC r n ds P Q y l w) : VC r n ds P Q (.cond o x y) l w :=
  VC_cond _ ho (fun e => ht (of_decide_eq_true e)) (fun e => hf (of_decide_eq_false e))
theorem VC_ndec {o : Operand} (p : Prop) [Decidable p] (ho : opV l o = some (.bool (!decide p))) (ht : ¬p → VC r n ds P Q x l w) (hf : p → VC r n ds P Q y l w) : VC r n ds P Q (.cond o x y) l w :=
  VC_cond _ ho (fun e => ht (of_decide_eq_false (by simpa using e))) (fun e => hf (of_decide_eq_true (by simpa using e)))
theorem VC_eq {o : Operand} (p q : Int) (ho : opV l o = some (.bool (p == q))) (ht : p = q → VC r n ds P Q x l w) (hf : p ≠ q → VC r n ds P Q y l w) : VC r n ds P Q (.cond o x y) l w :=
  VC_cond _ ho (fun e => ht (by simpa using e)) (fun e => hf (by simpa using e))
theorem VC_ne {o : Operand} (p q : Int) (ho : opV l o = some (.bool (p != q))) (ht : p ≠ q → VC r n ds P Q x l w) (hf : p = q → VC r n ds P Q y l w) : VC r n ds P Q (.cond o x y) l w :=
  VC_cond _ ho (fun e => ht (by simpa using e)) (fun e => hf (by simpa using e))
theorem VC_true {o : Operand} (ho : opV l o = some (.bool true)) (ht : VC r n ds P Q x l w) : VC r n ds P Q (.cond o x y) l w :=
  VC_cond _ ho (fun _ => ht) (fun e => by cases e)
theorem VC_false {o : Operand} (ho : opV l o = some (.bool false)) (hf : VC r n ds P Q y l w) : VC r n ds P Q (.cond o x y) l w :=
  VC_cond _ ho (fun e => by cases e) (fun _ => hf)

theorem VQ_then {K : Act → World → Prop} (h : ∀ a, Has n ds l a → K a w) : VQ n ds (Exit.then K Q) .normal l w := h
theorem VQ_next (h : VC r n ds P Q y l w) : VQ n ds (Exit.then (y.wpIn (Fx r) 0 P Q) Q) .normal l w := h
theorem VQ_then_exit {K : Act → World → Prop} {id : Nat} (h : VQ n ds Q (.exit id) l w) : VQ n ds (Exit.then K Q) (.exit id) l w := h
theorem VQ_then_ret {K : Act → World → Prop} (h : VQ n ds Q .ret l w) : VQ n ds (Exit.then K Q) .ret l w := h
theorem VQ_block_normal {id : Nat} (h : VQ n ds Q .normal l w) : VQ n ds (Exit.inBlock id Q) .normal l w := h
theorem VQ_block_ret {id : Nat} (h : VQ n ds Q .ret l w) : VQ n ds (Exit.inBlock id Q) .ret l w := h
theorem VQ_block_hit {id : Nat} (h : VQ n ds Q .normal l w) : VQ n ds (Exit.inBlock id Q) (.exit id) l w := by
  intro a ha; simp only [Exit.inBlock, if_true]; exact h a ha
theorem VQ_block_miss {id id' : Nat} (hne : Nat.beq id' id = false) (h : VQ n ds Q (.exit id') l w) : VQ n ds (Exit.inBlock id Q) (.exit id') l w := by
  intro a ha
  have := Nat.ne_of_beq_eq_false hne
  simp only [Exit.inBlock, this, if_false]
  exact h a ha
theorem VQ_scope_normal (h : VQ n ds Q .normal l w) : VQ n ds (Exit.noGoto Q) .normal l w := h
theorem VQ_scope_ret (h : VQ n ds Q .ret l w) : VQ n ds (Exit.noGoto Q) .ret l w := h
theorem VQ_scope_exit {id : Nat} (h : VQ n ds Q (.exit id) l w) : VQ n ds (Exit.noGoto Q) (.exit id) l w := h
theorem VQ_sub {e : Exit} {l' : List (Nat × Value)} (hs : Sub l' l) (h : VQ n ds Q e l' w) : VQ n ds Q e l w := fun a ha => h a (ha.sub hs)

/-- Where a round of a loop goes on. -/
def LoopK {σ : Type} (n : Nat) (ds : List Deferred) (L : σ → List (Nat × Value)) (I : σ → World → Prop) (μ : σ → World → Nat) (m : Nat) : Act → World → Prop :=
  fun a w => ∃ s, Has n ds (L s) a ∧ I s w ∧ μ s w < m

theorem wpIn_loop' {σ : Type} {a : Act} (L : σ → List (Nat × Value)) (I : σ → World → Prop) (μ : σ → World → Nat) (s0 : σ) (hs : Has n ds (L s0) a) (h0 : I s0 w)
    (round : ∀ s w, I s w → ∀ a, Has n ds (L s) a → c.wpIn (Fx r) 0 P (Exit.then (LoopK n ds L I μ (μ s w)) Q) a w) : (Code.loop c).wpIn (Fx r) 0 P Q a w := by
  intro b k cs hro hb hr
  have key : ∀ j s a w, μ s w = j → Has n ds (L s) a → I s w →
      ∃ e a' w', Q e a' w' ∧ ArrivesIn (Machine.fenced P (Fx r)) P (lone (b.atR a (.code c :: .inLoop c :: k)) cs w) b k cs e a' w' := by
    intro j
    induction j using Nat.strongRecOn with
    | _ j ih =>
      intro s a w hn ha hI
      obtain ⟨e, a₁, w₁, hq, harr⟩ := round s w hI a ha b (.inLoop c :: k) cs hro hb hr
      cases e with
      | normal =>
        obtain ⟨s1, ha1, hI₁, hlt⟩ := hq
        obtain ⟨e₂, a₂, w₂, hq₂, harr₂⟩ := ih (μ s1 w₁) (hn ▸ hlt) s1 a₁ w₁ rfl ha1 hI₁
        exact ⟨e₂, a₂, w₂, hq₂, .of_steps (StepsIn.trans harr (.one (fenced_calm hb hr rfl) stepR_inLoop)) harr₂⟩
      | exit id => exact ⟨_, a₁, w₁, hq, .pass (x := .inLoop c) rfl (fun _ _ => .inl (by simp)) harr⟩
      | goto l => exact ⟨_, a₁, w₁, hq, .pass (x := .inLoop c) rfl (fun _ _ => .inl (by simp)) harr⟩
      | ret => exact ⟨_, a₁, w₁, hq, .pass (x := .inLoop c) rfl (fun _ _ => .inl (by simp)) harr⟩
      | panic ch => exact ⟨_, a₁, w₁, hq, .pass (x := .inLoop c) rfl (fun _ _ => .inl (by simp)) harr⟩
      | outgrown => exact ⟨_, a₁, w₁, hq, .pass (x := .inLoop c) rfl (fun _ _ => .inl (by simp)) harr⟩
  obtain ⟨e, a', w', hq, harr⟩ := key _ s0 a w rfl hs h0
  exact ⟨e, a', w', hq, .of_steps (.one (fenced_calm hb hr rfl) stepR_loop) harr⟩

theorem VC_loop {σ : Type} (L : σ → List (Nat × Value)) (I : σ → World → Prop) (μ : σ → World → Nat) (s0 : σ) (hs : Sub (L s0) l) (h0 : I s0 w)
    (round : ∀ s w, I s w → VC r n ds P (Exit.then (LoopK n ds L I μ (μ s w)) Q) c (L s) w) : VC r n ds P Q (.loop c) l w := by
  intro a ha
  refine wpIn_loop' (n := n) (ds := ds) L I μ s0 (ha.sub hs) h0 fun s w hI a ha => round s w hI a ha

theorem VQ_again {σ : Type} {L : σ → List (Nat × Value)} {I : σ → World → Prop} {μ : σ → World → Nat} {m : Nat} (s : σ) (hs : Sub (L s) l) (hI : I s w) (hm : μ s w < m) : VQ n ds (Exit.then (LoopK n ds L I μ m) Q) .normal l w :=
  fun a ha => ⟨s, ha.sub hs, hI, hm⟩

theorem VC_scope (h : VC r n ds P (Exit.noGoto Q) c l w) : VC r n ds P Q (.scope c) l w := by
  intro a ha b k cs hro hb hr
  obtain ⟨e, a₁, w₁, hq, harr⟩ := h a ha b (.inScope c :: k) cs hro hb hr
  have s0 : step P (lone (b.atR a (.code (.scope c) :: k)) cs w) = .next (lone (b.atR a (.code c :: .inScope c :: k)) cs w) :=
    step_lone_go (by simp [stepG, stepG.exec, Frame.atR])
  have s1 : ∀ (a₁ : Act) (w₁ : World), step P (lone (b.atR a₁ (.inScope c :: k)) cs w₁) = .next (lone (b.atR a₁ k) cs w₁) := fun a₁ w₁ =>
    step_lone_go (by simp [stepG, stepG.exec, Frame.atR])
  have f0 : (lone (b.atR a (.code (.scope c) :: k)) cs w).fenced P (Fx r) := fenced_calm hb hr rfl
  cases e with
  | normal => exact ⟨.normal, a₁, w₁, hq, .head f0 s0 (StepsIn.trans harr (.one (fenced_calm hb hr rfl) (s1 _ _)))⟩
  | exit id =>
    have hx : exitTo id (.inScope c :: k) = exitTo id k := by simp [exitTo]
    exact ⟨.exit id, a₁, w₁, hq, fun k' hk => .head f0 s0 (harr.1 k' (by rw [hx]; exact hk)), fun hr' hk => let ⟨k₁, h1, h2⟩ := harr.2 hr' (by rw [hx]; exact hk); ⟨k₁, h1, .head f0 s0 h2⟩⟩
  | goto l => exact hq.elim
  | ret => exact ⟨_, a₁, w₁, hq, .of_steps (.one f0 s0) harr⟩
  | panic ch => exact ⟨_, a₁, w₁, hq, .of_steps (.one f0 s0) harr⟩
  | outgrown => exact ⟨_, a₁, w₁, hq, .of_steps (b := b) (k := k) (cs := cs) (e := .outgrown) (.one f0 s0) harr⟩

/-! ### 5. Calls -/
def CV (P : Program) (f : FuncId) (args : Array Value) (w : World) (S : Value → World → Prop) : Prop :=
  Calls P f args w fun e w' => ∃ v, e = .returned v ∧ S v w'
theorem CV.mono {f : FuncId} {args : Array Value} {S S' : Value → World → Prop} (h : CV P f args w S) (hs : ∀ v w', S v w' → S' v w') : CV P f args w S' :=
  Calls.mono h fun e w' ⟨v, he, hS⟩ => ⟨v, he, hs v w' hS⟩
def PostV (S : Value → World → Prop) : Ending → World → Prop := fun e w' => ∃ v, e = .returned v ∧ S v w'

def zipArgs : Nat → List Value → List (Nat × Value)
  | _, [] => []
  | i, v :: vs => (i, v) :: zipArgs (i + 1) vs

theorem look_zipArgs (vs : List Value) : ∀ (i t : Nat) (v : Value), look (zipArgs i vs) t = some v → i ≤ t ∧ vs[t - i]? = some v := by
  induction vs with
  | nil => intro i t v h; cases h
  | cons u vs ih =>
    intro i t v h
    simp only [zipArgs, look] at h
    cases e : Nat.beq i t with
    | true =>
      rw [e] at h
      have : i = t := Nat.eq_of_beq_eq_true e
      subst this
      simp only [cond_true, Option.some.injEq] at h
      subst h
      simp
    | false =>
      rw [e] at h
      have hne : i ≠ t := Nat.ne_of_beq_eq_false e
      obtain ⟨h1, h2⟩ := ih (i + 1) t v h
      refine ⟨by omega, ?_⟩
      rw [show t - i = (t - (i + 1)) + 1 from by omega]
      simpa using h2

theorem CV_enter {f : FuncId} {args : Array Value} {S : Value → World → Prop} (fn : Func) (c : Code) (n : Nat) (l0 : List (Nat × Value)) (hf : P.funcs[f]? = some fn) (hb : fn.body = some c)
    (hn : fn.ntmps = n) (ha : Nat.ble args.toList.length n = true) (hl : zipArgs 0 args.toList = l0) (h : VC none n [] P (bodyPost P fn (PostV S)) c l0 w) : CV P f args w S := by
  refine (callsIn_wide (n := 0)).1 (callsIn_of_wp hf hb trivial ?_)
  refine h _ ⟨?_, rfl, fun t v hv => ?_⟩
  · have := Nat.le_of_ble_eq_true ha
    simp at this
    simp [hn]
    omega
  · rw [← hl] at hv
    obtain ⟨_, h2⟩ := look_zipArgs _ _ _ _ hv
    simp only [Nat.sub_zero, Array.getElem?_toList] at h2
    obtain ⟨hlt, _⟩ := Array.getElem?_eq_some_iff.1 h2
    rw [Array.getElem?_append_left hlt]
    exact h2

def callOp (ops : Array Oper) (l : List (Nat × Value)) (i : Nat) : Option (Nat × FuncId × Array Value) :=
  match ops[i]? with
  | none => none
  | some o =>
    match guardOk ops l o, listed l o, o.dst, o.op with
    | some true, true, some d, .call { callee := .value f, args, .. } =>
      match evL l f with
      | .func (.func f) first captured => some (d, f, first ++ args.map (evL l) ++ captured)
      | _ => none
    | _, _, _, _ => none

theorem V1_call {d f : Nat} {args : Array Value} {S : Value → World → Prop} (h : callOp ops l i = some (d, f, args)) (hd : Nat.blt d n = true)
    (hc : ∀ (args : Array Value) (w : World), (callFunc f args).run P w = .ok (.enter f args) w) (hcall : CV P f args w S) {K : List (Nat × Value) → World → Prop} (next : ∀ v w', S v w' → K ((d, v) :: l) w') :
    V1 r n ds P ops Q i l w K := by
  unfold callOp at h
  cases ho : ops[i]? with
  | none => rw [ho] at h; cases h
  | some o =>
    rw [ho] at h
    simp only at h
    cases hg : guardOk ops l o with
    | none => rw [hg] at h; simp at h
    | some b =>
      cases b with
      | false => rw [hg] at h; simp at h
      | true =>
        cases hl : listed l o with
        | false => rw [hg, hl] at h; simp at h
        | true =>
          cases hdst : o.dst with
          | none => rw [hg, hl, hdst] at h; simp at h
          | some d' =>
            rw [hg, hl, hdst] at h
            cases hop : o.op <;> simp only [hop, reduceCtorEq] at h
            case call cl =>
              obtain ⟨callee, cargs, ts⟩ := cl
              cases callee <;> (try (simp at h; done))
              case value x =>
                cases hx : evL l x <;> simp only [hx, reduceCtorEq] at h
                case func fn first captured =>
                  cases fn <;> simp only [reduceCtorEq, Option.some.injEq, Prod.mk.injEq] at h
                  case func f' =>
                    obtain ⟨rfl, rfl, hargs⟩ := h
                    refine V1_run ho hg hl fun a ha => ?_
                    have hrun : (execOp (evL l) o).run P w = .ok (.enter f' args) w := by
                      simp only [execOp, hop, resolve, hx, Deferred.ofValue, Sem.run_bind, Sem.run_pure, Result.andThen_ok, invoke]
                      rw [hc, hargs]
                    rw [hrun]
                    refine ⟨(fun hd => by cases hd), callsIn_Fx ?_⟩
                    refine Calls.mono hcall ?_
                    rintro e w' ⟨v, rfl, hS⟩
                    exact ⟨_, by rw [hdst]; exact ha.put _ (blt_spec hd) _, next v w' hS⟩

theorem VL_call {d f : Nat} {args : Array Value} {S : Value → World → Prop} (h : callOp ops l i = some (d, f, args)) (hd : Nat.blt d n = true) (hi : Nat.blt i ops.size = true)
    (hc : ∀ (args : Array Value) (w : World), (callFunc f args).run P w = .ok (.enter f args) w) (hcall : CV P f args w S) (next : ∀ v w', S v w' → VL r n ds P ops Q (i + 1) ((d, v) :: l) w') :
    VL r n ds P ops Q i l w := VL_of_V1 hi (V1_call h hd hc hcall next)

/-! ### 6. The end of a function -/
theorem VQ_ret1 {fn : Func} {S : Value → World → Prop} {t : Nat} (v : Value) {e : Exit} (he : e = .normal ∨ e = .ret) (hr : fn.results = #[.tmp t]) (hv : look l t = some v) (hS : S v w) : VQ n [] (bodyPost P fn (PostV S)) e l w := by
  intro a ha
  have : (results fn a.tmps).run P w = .ok v w := by rw [results_tmp hr]; simp [Array.getD_eq_getD_getElem?, ha.get t v hv]
  rcases he with rfl | rfl <;> exact ⟨ha.defers, v, this, v, rfl, hS⟩
theorem VQ_ret0 {fn : Func} {S : Value → World → Prop} {e : Exit} (he : e = .normal ∨ e = .ret) (hr : fn.results = #[]) (hS : S (.tuple #[]) w) : VQ n [] (bodyPost P fn (PostV S)) e l w := by
  intro a ha
  rcases he with rfl | rfl <;> exact ⟨ha.defers, _, results_none hr _ _ _, _, rfl, hS⟩
theorem VQ_ret2 {fn : Func} {S : Value → World → Prop} {t u : Nat} (v v' : Value) {e : Exit} (he : e = .normal ∨ e = .ret) (hr : fn.results = #[.tmp t, .tmp u]) (hv : look l t = some v) (hv' : look l u = some v') (hS : S (.tuple #[v, v']) w) : VQ n [] (bodyPost P fn (PostV S)) e l w := by
  intro a ha
  have : (results fn a.tmps).run P w = .ok (.tuple #[v, v']) w := by rw [results_tmp2 hr]; simp [Array.getD_eq_getD_getElem?, ha.get t v hv, ha.get u v' hv']
  rcases he with rfl | rfl <;> exact ⟨ha.defers, _, this, _, rfl, hS⟩
theorem VQ_ret3 {fn : Func} {S : Value → World → Prop} {t u x : Nat} (v v' v'' : Value) {e : Exit} (he : e = .normal ∨ e = .ret) (hr : fn.results = #[.tmp t, .tmp u, .tmp x]) (hv : look l t = some v) (hv' : look l u = some v') (hv'' : look l x = some v'') (hS : S (.tuple #[v, v', v'']) w) : VQ n [] (bodyPost P fn (PostV S)) e l w := by
  intro a ha
  have : (results fn a.tmps).run P w = .ok (.tuple #[v, v', v'']) w := by simp [results, hr, Array.getD_eq_getD_getElem?, ha.get t v hv, ha.get u v' hv', ha.get x v'' hv'']
  rcases he with rfl | rfl <;> exact ⟨ha.defers, _, this, _, rfl, hS⟩
end
end Go.Vc
