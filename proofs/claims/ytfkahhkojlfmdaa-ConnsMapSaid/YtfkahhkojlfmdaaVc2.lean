/- The calculus' second part: memory. Blocks of cells, what a step leaves of them, loads, stores, new blocks, indexes, slices. -/
import Derived.Test.YtfkahhkojlfmdaaVc1
set_option linter.unusedVariables false
set_option linter.unusedSimpArgs false
namespace Go.Vc
open Go.RowKit

/-! ### 1. What a step may have done to the world: blocks that were there are as they were, but those of F -/
structure Step (F : Nat → Prop) (w w' : World) : Prop where
  os : w'.os = w.os
  tape : w'.tape = w.tape
  output : w'.output = w.output
  size : w.heap.size ≤ w'.heap.size
  block : ∀ k, k < w.heap.size → ¬ F k → w'.heap[k]? = w.heap[k]?

abbrev No : Nat → Prop := fun _ => False
abbrev Just (b : Nat) : Nat → Prop := fun k => k = b

variable {F G : Nat → Prop} {w w' w'' : World}
theorem Step.refl (F : Nat → Prop) (w : World) : Step F w w := ⟨rfl, rfl, rfl, Nat.le_refl _, fun _ _ _ => rfl⟩
theorem Step.trans (h : Step F w w') (k : Step F w' w'') : Step F w w'' :=
  ⟨k.os.trans h.os, k.tape.trans h.tape, k.output.trans h.output, Nat.le_trans h.size k.size, fun i hi hF => (k.block i (Nat.lt_of_lt_of_le hi h.size) hF).trans (h.block i hi hF)⟩
/-- The second step may turn whatever is new to the first world. -/
theorem Step.transNew (h : Step F w w') (k : Step G w' w'') (hG : ∀ i, i < w.heap.size → G i → F i) : Step F w w'' :=
  ⟨k.os.trans h.os, k.tape.trans h.tape, k.output.trans h.output, Nat.le_trans h.size k.size, fun i hi hF => (k.block i (Nat.lt_of_lt_of_le hi h.size) (fun g => hF (hG i hi g))).trans (h.block i hi hF)⟩
theorem Step.mono (h : Step F w w') (hF : ∀ i, F i → G i) : Step G w w' := ⟨h.os, h.tape, h.output, h.size, fun i hi hG => h.block i hi (fun f => hG (hF i f))⟩
theorem Step.weak (h : Step No w w') : Step G w w' := h.mono fun _ => False.elim
theorem Step.no (h : Step No w w') {k : Nat} (hk : k < w.heap.size) : w'.heap[k]? = w.heap[k]? := h.block k hk id
theorem Step.below (h : Step No w w') : Below w.heap.size w w' := ⟨h.os, h.tape, h.output, h.size, fun _ hk => h.block _ hk id⟩
theorem Step.of_below {B : Nat} (h : Below B w w') (hB : B = w.heap.size) : Step No w w' := ⟨h.os, h.tape, h.output, h.size, fun _ hk _ => h.block _ (hB ▸ hk)⟩
theorem Step.of_grown {row : Option Nat} (h : w.grownBy w' row) (hF : ∀ k, row = some k → k < w.heap.size → F k) : Step F w w' :=
  ⟨h.os, h.tape, h.output, h.size, fun k hk hn => h.block k hk (fun e => hn (hF k e.symm hk))⟩
theorem Step.cell (h : Step F w w') {a : Addr} (hF : ¬ F a.block) {v : Value} (hc : w.cell? a = some v) : w'.cell? a = some v :=
  (World.cell?_of_block (w := w) (h.block a.block (World.block_lt_of_cell? w a hc) hF)).trans hc

/-! ### 2. Blocks -/
def Blk (w : World) (b : Nat) (c : Array Value) (e : TypeId) : Prop := ∃ fr, w.heap[b]? = some (.cells c e fr)
def Own (w : World) (b : Nat) (c : Array Value) (e : TypeId) : Prop := w.heap[b]? = some (.cells c e (0, 0))
theorem Own.cast {b : Nat} {c c' : Array Value} {e : TypeId} (h : Own w b c e) (hc : c = c') : Own w b c' e := hc ▸ h
theorem Own.blk {b : Nat} {c : Array Value} {e : TypeId} (h : Own w b c e) : Blk w b c e := ⟨_, h⟩
theorem Blk.lt {b : Nat} {c : Array Value} {e : TypeId} (h : Blk w b c e) : b < w.heap.size := by obtain ⟨fr, h⟩ := h; exact (Array.getElem?_eq_some_iff.1 h).1
theorem Own.lt {b : Nat} {c : Array Value} {e : TypeId} (h : Own w b c e) : b < w.heap.size := h.blk.lt
theorem Blk.step {b : Nat} {c : Array Value} {e : TypeId} (h : Blk w b c e) (hs : Step F w w') (hF : ¬ F b) : Blk w' b c e := by
  have hl := h.lt
  obtain ⟨fr, h⟩ := h
  exact ⟨fr, (hs.block b hl hF).trans h⟩
theorem Own.step {b : Nat} {c : Array Value} {e : TypeId} (h : Own w b c e) (hs : Step F w w') (hF : ¬ F b) : Own w' b c e := (hs.block b h.lt hF).trans h
theorem Own.no {b : Nat} {c : Array Value} {e : TypeId} (h : Own w b c e) (hs : Step No w w') : Own w' b c e := h.step hs id
theorem Blk.no {b : Nat} {c : Array Value} {e : TypeId} (h : Blk w b c e) (hs : Step No w w') : Blk w' b c e := h.step hs id
theorem Blk.cell {b : Nat} {c : Array Value} {e : TypeId} (h : Blk w b c e) (o : Nat) : w.cell? ⟨b, o, none⟩ = c[o]? := by obtain ⟨fr, h⟩ := h; simp [World.cell?, h]
theorem Own.cell {b : Nat} {c : Array Value} {e : TypeId} (h : Own w b c e) (o : Nat) : w.cell? ⟨b, o, none⟩ = c[o]? := h.blk.cell o

/-- A new block. -/
structure New (w w' : World) (b : Nat) (o : Obj) : Prop where
  eqb : b = w.heap.size
  eqw : w' = w.alloc o
theorem New.step {b : Nat} {o : Obj} (h : New w w' b o) (F : Nat → Prop) : Step F w w' := by
  obtain ⟨_, rfl⟩ := h
  exact ⟨rfl, rfl, rfl, by simp, fun k hk _ => Below.heap_alloc w o k hk⟩
theorem New.get {b : Nat} {o : Obj} (h : New w w' b o) : w'.heap[b]? = some o := by
  obtain ⟨rfl, rfl⟩ := h
  show (w.heap.push o)[w.heap.size]? = some o
  exact Array.getElem?_push_size
theorem New.own {b : Nat} {c : Array Value} {e : TypeId} (h : New w w' b (.cells c e)) : Own w' b c e := h.get
theorem New.size {b : Nat} {o : Obj} (h : New w w' b o) : w'.heap.size = w.heap.size + 1 := by obtain ⟨_, rfl⟩ := h; simp
theorem New.old {b : Nat} {o : Obj} (h : New w w' b o) : ¬ b < w.heap.size := by rw [h.eqb]; omega

/-! ### 3. Loads -/
def oneB (P : Program) (t : TypeId) : Bool := match P.underlying t with
  | some (.struct _) | some (.array ..) | none => false
  | some _ => true
def aggB (P : Program) (t : TypeId) : Option Nat := match P.underlying t with
  | some (.struct _) | some (.array ..) => (P.info? t).map (·.size)
  | _ => none

def Loads (P : Program) (t : TypeId) (w : World) (a : Addr) (v : Value) : Prop := (loadVar t a).run P w = .ok v w

theorem run_isAgg_one {P : Program} {t : TypeId} (h : oneB P t = true) (w : World) : (isAgg t).run P w = .ok false w := by
  unfold oneB at h
  unfold isAgg underlying program
  cases hu : P.underlying t with
  | none => rw [hu] at h; cases h
  | some d => rw [hu] at h; cases d <;> simp_all [Sem.run]
theorem run_isAgg_agg {P : Program} {t : TypeId} {n : Nat} (h : aggB P t = some n) (w : World) : (isAgg t).run P w = .ok true w := by
  unfold aggB at h
  unfold isAgg underlying program
  cases hu : P.underlying t with
  | none => rw [hu] at h; cases h
  | some d => rw [hu] at h; cases d <;> simp_all [Sem.run]
theorem aggB_info {P : Program} {t : TypeId} {n : Nat} (h : aggB P t = some n) : ∃ i, P.info? t = some i ∧ i.size = n := by
  unfold aggB at h
  cases hu : P.underlying t with
  | none => rw [hu] at h; cases h
  | some d =>
    rw [hu] at h
    cases d <;> simp only [reduceCtorEq] at h
    all_goals exact Option.map_eq_some_iff.1 h
theorem run_sizeOf {P : Program} {t : TypeId} {i : TypeInfo} (h : P.info? t = some i) (w : World) : (sizeOf t).run P w = .ok i.size w := by
  simp [sizeOf, typeInfo, program, Sem.run, h]

theorem Loads.one {P : Program} {t : TypeId} {a : Addr} {v : Value} (h : oneB P t = true) (hc : w.cell? a = some v) : Loads P t w a v := by
  unfold Loads loadVar
  simp [run_isAgg_one h, hc]

theorem run_loadCellsFrom {P : Program} {a : Addr} (m : Nat) : ∀ (i : Nat) (acc : Array Value) (f : Nat → Value), (∀ j, j < m → w.cell? (a.add (i + j)) = some (f j)) →
    (loadCellsFrom a i m acc).run P w = .ok (acc ++ (Array.ofFn fun j : Fin m => f j)) w := by
  induction m with
  | zero => intro i acc f _; simp [loadCellsFrom]
  | succ m ih =>
    intro i acc f h
    have h0 := h 0 (by omega)
    simp only [Nat.add_zero] at h0
    have := ih (i + 1) (acc.push (f 0)) (fun j => f (j + 1)) (fun j hj => by have := h (j + 1) (by omega); rwa [show i + (j + 1) = i + 1 + j from by omega] at this)
    simp only [loadCellsFrom, Sem.run_bind, run_load, h0, Result.andThen_ok, this]
    congr 1
    rw [← Array.toList_inj]
    simp [List.ofFn_succ]

theorem Loads.cells {P : Program} {t : TypeId} {a : Addr} {n : Nat} (h : aggB P t = some n) (cs : Array Value) (hn : cs.size = n) (hc : ∀ j, j < n → w.cell? (a.add j) = cs[j]?) : Loads P t w a (.agg cs) := by
  obtain ⟨i, hi, hsz⟩ := aggB_info h
  unfold Loads loadVar
  have hl := run_loadCellsFrom (P := P) (w := w) (a := a) n 0 #[] (fun j => cs.getD j undef) (fun j hj => by
    rw [Nat.zero_add, hc j hj, Array.getElem?_eq_getElem (by omega)]; simp [Array.getD, show j < cs.size by omega])
  have he : (#[] ++ Array.ofFn fun j : Fin n => cs.getD j undef) = cs := by
    apply Array.ext
    · simp [hn]
    · intro j h1 h2
      simp [Array.getD, h2]
  rw [he] at hl
  simp [run_isAgg_agg h, run_sizeOf hi, hsz, loadCells, hl]

theorem add_none (b o k : Nat) : (⟨b, o, none⟩ : Addr).add k = ⟨b, o + k, none⟩ := by unfold Addr.add; split <;> simp_all

theorem Loads.blk1 {P : Program} {t : TypeId} {b o : Nat} {c : Array Value} {e : TypeId} {v : Value} (hB : Blk w b c e) (h : oneB P t = true) (hv : c[o]? = some v) : Loads P t w ⟨b, o, none⟩ v :=
  Loads.one h ((hB.cell o).trans hv)
theorem Loads.blk {P : Program} {t : TypeId} {b o n : Nat} {c : Array Value} {e : TypeId} {cs : Array Value} (hB : Blk w b c e) (h : aggB P t = some n) (hn : o + n ≤ c.size) (hv : c.extract o (o + n) = cs) : Loads P t w ⟨b, o, none⟩ (.agg cs) := by
  refine Loads.cells h cs (by rw [← hv]; simp; omega) fun j hj => ?_
  rw [add_none, hB.cell, ← hv]
  simp [Array.getElem?_extract, show o + j < c.size by omega, show min (o + n) c.size - o = n by omega, hj]
theorem Loads.own1 {P : Program} {t : TypeId} {b o : Nat} {c : Array Value} {e : TypeId} {v : Value} (hB : Own w b c e) (h : oneB P t = true) (hv : c[o]? = some v) : Loads P t w ⟨b, o, none⟩ v := .blk1 hB.blk h hv
theorem Loads.own {P : Program} {t : TypeId} {b o n : Nat} {c : Array Value} {e : TypeId} {cs : Array Value} (hB : Own w b c e) (h : aggB P t = some n) (hn : o + n ≤ c.size) (hv : c.extract o (o + n) = cs) : Loads P t w ⟨b, o, none⟩ (.agg cs) := .blk hB.blk h hn hv

theorem Loads.ownL {P : Program} {t : TypeId} {b o n : Nat} {c : Array Value} {e : TypeId} {cs : Array Value} (hB : Own w b c e) (h : aggB P t = some n) (hn : Nat.ble (o + n) c.size = true) (hv : c.extract o (o + n) = cs) : Loads P t w ⟨b, o, none⟩ (.agg cs) := .own hB h (Nat.le_of_ble_eq_true hn) hv

section
variable {r : Option Nat} {n : Nat} {ds : List Deferred} {P : Program} {ops : Array Oper} {Q : Exit → Act → World → Prop} {l : List (Nat × Value)} {i : Nat} {K : List (Nat × Value) → World → Prop}

/-- What is the same for all operations that are carried out: it is there, its guard is met, its operands are known. -/
def theOp (ops : Array Oper) (l : List (Nat × Value)) (i : Nat) : Option Oper :=
  match ops[i]? with
  | none => none
  | some o =>
    match guardOk ops l o with
    | some true => bif listed l o then some o else none
    | _ => none
theorem theOp_spec {o : Oper} (h : theOp ops l i = some o) : ops[i]? = some o ∧ guardOk ops l o = some true ∧ listed l o = true := by
  unfold theOp at h
  cases ho : ops[i]? with
  | none => rw [ho] at h; cases h
  | some o' =>
    rw [ho] at h
    simp only at h
    cases hg : guardOk ops l o' with
    | none => rw [hg] at h; cases h
    | some b =>
      rw [hg] at h
      cases b with
      | false => cases h
      | true =>
        cases hl : listed l o' with
        | false => rw [hl] at h; cases h
        | true =>
          rw [hl] at h
          simp only [cond_true, Option.some.injEq] at h
          subst h
          exact ⟨rfl, hg, hl⟩

/-- The run of one operation, however it is known. -/
theorem V1_value {o : Oper} {d : Nat} {v : Value} {w1 : World} (ho : theOp ops l i = some o) (hd : o.dst = some d) (hdn : Nat.blt d n = true) (hrun : (execOp (evL l) o).run P w = .ok (.value v) w1) (h : K ((d, v) :: l) w1) :
    V1 r n ds P ops Q i l w K := by
  obtain ⟨h1, h2, h3⟩ := theOp_spec ho
  refine V1_run h1 h2 h3 fun a ha => ?_
  rw [hrun]
  exact ⟨_, by rw [hd]; exact ha.put d (blt_spec hdn) _, h⟩
theorem V1_skip {o : Oper} {w1 : World} (ho : theOp ops l i = some o) (hd : o.dst = none) (hrun : (execOp (evL l) o).run P w = .ok .skip w1) (h : K l w1) :
    V1 r n ds P ops Q i l w K := by
  obtain ⟨h1, h2, h3⟩ := theOp_spec ho
  refine V1_run h1 h2 h3 fun a ha => ?_
  rw [hrun]
  exact ⟨_, by rw [hd]; exact ha, h⟩

def loadOp (n : Nat) (ops : Array Oper) (l : List (Nat × Value)) (i : Nat) : Option (Nat × TypeId × Addr) :=
  match theOp ops l i with
  | some { dst := some d, op := .load t x, .. } => match evL l x with
    | .pointer (some a) => bif Nat.blt d n then some (d, t, a) else none
    | _ => none
  | _ => none
theorem V1_load {d : Nat} {t : TypeId} {a : Addr} {v : Value} (h : loadOp n ops l i = some (d, t, a)) (hv : Loads P t w a v) (next : K ((d, v) :: l) w) : V1 r n ds P ops Q i l w K := by
  unfold loadOp at h
  split at h
  · rename_i _ d' t' x ty pos aft gd ho
    split at h
    · rename_i a' ha
      cases hb : Nat.blt d' n with
      | false => rw [hb] at h; cases h
      | true =>
        rw [hb] at h
        simp only [cond_true, Option.some.injEq, Prod.mk.injEq] at h
        obtain ⟨rfl, rfl, rfl⟩ := h
        refine V1_value ho rfl hb ?_ next
        simp only [execOp, Instr.loadAt, Instr.sureAddr, ha, Sem.run_bind, Sem.run_pure, Result.andThen_ok]
        rw [show (loadVar t' a').run P w = .ok v w from hv]
        rfl
    · cases h
  · cases h
theorem VL_load {d : Nat} {t : TypeId} {a : Addr} {v : Value} (h : loadOp n ops l i = some (d, t, a)) (hi : Nat.blt i ops.size = true) (hv : Loads P t w a v) (next : VL r n ds P ops Q (i + 1) ((d, v) :: l) w) : VL r n ds P ops Q i l w :=
  VL_of_V1 hi (V1_load h hv next)

/-! ### 4. New blocks -/
def boxOp (P : Program) (n : Nat) (ops : Array Oper) (l : List (Nat × Value)) (i : Nat) : Option (Nat × TypeId × Array Value) :=
  match theOp ops l i with
  | some { dst := some d, op := .box t x, .. } => bif Nat.blt d n then some (d, t, (evL l x).cells) else none
  | some { dst := some d, op := .alloc t, .. } => match (P.info? t).bind (·.zero) with
    | some z => bif Nat.blt d n then some (d, t, z.cells) else none
    | none => none
  | _ => none
theorem V1_box {d : Nat} {t : TypeId} {c : Array Value} (h : boxOp P n ops l i = some (d, t, c)) (next : ∀ b w1, New w w1 b (.cells c t) → K ((d, .pointer (some ⟨b, 0, none⟩)) :: l) w1) : V1 r n ds P ops Q i l w K := by
  unfold boxOp at h
  split at h
  · rename_i _ d' t' x ty pos aft gd ho
    cases hb : Nat.blt d' n with
    | false => rw [hb] at h; cases h
    | true =>
      rw [hb] at h
      simp only [cond_true, Option.some.injEq, Prod.mk.injEq] at h
      obtain ⟨rfl, rfl, rfl⟩ := h
      refine V1_value ho rfl hb ?_ (next w.heap.size _ ⟨rfl, rfl⟩)
      simp only [execOp, Instr.box, newVar, newRow, newObj, Sem.run_bind, Sem.run, Result.andThen_ok, Sem.run_pure]
      rfl
  · rename_i _ d' t' ty pos aft gd ho
    split at h
    · rename_i z hz
      cases hb : Nat.blt d' n with
      | false => rw [hb] at h; cases h
      | true =>
        rw [hb] at h
        simp only [cond_true, Option.some.injEq, Prod.mk.injEq] at h
        obtain ⟨rfl, rfl, rfl⟩ := h
        obtain ⟨inf, hinf, hzz⟩ := Option.bind_eq_some_iff.1 hz
        refine V1_value ho rfl hb ?_ (next w.heap.size _ ⟨rfl, rfl⟩)
        have hzv : (zeroValue t').run P w = .ok z w := by simp [zeroValue, typeInfo, program, Sem.run, hinf, hzz]
        simp only [execOp, Instr.alloc, Sem.run_bind, hzv, Result.andThen_ok, newVar, newRow, newObj, Sem.run, Sem.run_pure]
        rfl
    · cases h
  · cases h
theorem VL_box {d : Nat} {t : TypeId} {c : Array Value} (h : boxOp P n ops l i = some (d, t, c)) (hi : Nat.blt i ops.size = true) (next : ∀ b w1, New w w1 b (.cells c t) → VL r n ds P ops Q (i + 1) ((d, .pointer (some ⟨b, 0, none⟩)) :: l) w1) : VL r n ds P ops Q i l w :=
  VL_of_V1 hi (V1_box h next)

/-! ### 5. Stores -/
def oneC : Value → Bool
  | .agg _ | .tuple _ => false
  | _ => true
def setRow : Array Value → Nat → List Value → Array Value
  | c, _, [] => c
  | c, o, v :: vs => setRow (c.setIfInBounds o v) (o + 1) vs
theorem size_setRow (vs : List Value) : ∀ (c : Array Value) (o : Nat), (setRow c o vs).size = c.size := by
  induction vs with
  | nil => intro c o; rfl
  | cons v vs ih => intro c o; simp [setRow, ih]
theorem getElem?_setRow (vs : List Value) : ∀ (c : Array Value) (o : Nat), o + vs.length ≤ c.size → ∀ j, (setRow c o vs)[j]? = if o ≤ j ∧ j < o + vs.length then vs[j - o]? else c[j]? := by
  induction vs with
  | nil => intro c o _ j; rw [if_neg (by simp only [List.length_nil]; omega)]; rfl
  | cons v vs ih =>
    intro c o h j
    simp only [List.length_cons] at h
    simp only [setRow]
    rw [ih _ _ (by simp; omega)]
    by_cases h1 : j = o
    · subst h1
      rw [if_neg (by omega), if_pos (by simp), Array.getElem?_setIfInBounds_self_of_lt (by omega)]
      simp
    · rw [Array.getElem?_setIfInBounds_ne (by omega)]
      by_cases h2 : o + 1 ≤ j ∧ j < o + 1 + vs.length
      · rw [if_pos h2, if_pos (by simp; omega), show j - o = (j - (o + 1)) + 1 from by omega]
        simp
      · rw [if_neg h2, if_neg (by simp; omega)]

/-- A block's cells are others now. -/
structure Wr (w w' : World) (b : Nat) (c : Array Value) (e : TypeId) : Prop where
  own : Own w' b c e
  same : w'.heap.size = w.heap.size
  step : Step (Just b) w w'

theorem run_storeCells {P : Program} {b o : Nat} (vs : List Value) : ∀ (i : Nat) (w : World) (c : Array Value) (e : TypeId), Own w b c e → o + i + vs.length ≤ c.size → (∀ v ∈ vs, oneC v = true) →
    ∃ w1, (storeCells ⟨b, o, none⟩ vs i).run P w = .ok () w1 ∧ Wr w w1 b (setRow c (o + i) vs) e := by
  induction vs with
  | nil => intro i w c e h _ _; exact ⟨w, rfl, ⟨h, rfl, Step.refl _ _⟩⟩
  | cons v vs ih =>
    intro i w c e h hsz hone
    simp only [List.length_cons] at hsz
    have hv := hone v (List.mem_cons_self ..)
    have hc : w.cell? ⟨b, o + i, none⟩ = c[o + i]? := h.cell _
    rw [Array.getElem?_eq_getElem (by omega)] at hc
    have hf : w.frozen? ⟨b, o + i, none⟩ = false := by
      unfold World.frozen?
      rw [show w.heap[b]? = some (.cells c e (0, 0)) from h]
      simp
    have hw : Own (w.setCell ⟨b, o + i, none⟩ v) b (c.setIfInBounds (o + i) v) e := by
      obtain ⟨hlt, hb⟩ := Array.getElem?_eq_some_iff.1 h
      show (w.heap.modify b _)[b]? = _
      rw [Array.getElem?_eq_getElem (by rw [Array.size_modify]; exact hlt), Array.getElem_modify_self, hb]
      rfl
    obtain ⟨w1, hr, hwr⟩ := ih (i + 1) _ _ e hw (by simp; omega) (fun u hu => hone u (List.mem_cons_of_mem _ hu))
    refine ⟨w1, ?_, ?_⟩
    · simp only [storeCells, Sem.run_bind]
      have : (store ((⟨b, o, none⟩ : Addr).add i) v).run P w = .ok () (w.setCell ⟨b, o + i, none⟩ v) := by
        rw [add_none]
        unfold store
        cases v <;> first | (cases hv; done) | simp only [Sem.run, hc, hf, Bool.false_eq_true, if_false]
      rw [this, Result.andThen_ok, hr]
    · refine ⟨by have := hwr.own; rwa [← Nat.add_assoc] at this, by rw [hwr.same]; simp [World.setCell], ?_⟩
      refine Step.trans (w' := w.setCell ⟨b, o + i, none⟩ v) ⟨rfl, rfl, rfl, by simp [World.setCell], fun k hk hne => Below.heap_setCell w ⟨b, o + i, none⟩ v k (by simpa using hne)⟩ hwr.step

def storeOp (P : Program) (ops : Array Oper) (l : List (Nat × Value)) (i : Nat) : Option (Nat × Nat × List Value) :=
  match theOp ops l i with
  | some { dst := none, op := .store t x y, .. } => match evL l x with
    | .pointer (some ⟨b, o, none⟩) => bif (evL l y).cells.toList.all oneC && ((P.info? t).map (fun i => Nat.beq (evL l y).cells.size i.size)).getD false then some (b, o, (evL l y).cells.toList) else none
    | _ => none
  | _ => none
theorem V1_store {b o : Nat} {vs : List Value} {c : Array Value} {e : TypeId} (h : storeOp P ops l i = some (b, o, vs)) (hB : Own w b c e) (hsz : o + vs.length ≤ c.size) (next : ∀ w1, Wr w w1 b (setRow c o vs) e → K l w1) : V1 r n ds P ops Q i l w K := by
  unfold storeOp at h
  split at h
  · rename_i _ t x y ty pos aft gd ho
    split at h
    · rename_i b' o' hx
      cases hb : (evL l y).cells.toList.all oneC && ((P.info? t).map (fun i => Nat.beq (evL l y).cells.size i.size)).getD false with
      | false => rw [hb] at h; cases h
      | true =>
        rw [hb] at h
        simp only [cond_true, Option.some.injEq, Prod.mk.injEq] at h
        obtain ⟨rfl, rfl, rfl⟩ := h
        simp only [Bool.and_eq_true, List.all_eq_true] at hb
        obtain ⟨hb1, hb2⟩ := hb
        obtain ⟨inf, hinf, hsize⟩ : ∃ inf, P.info? t = some inf ∧ (evL l y).cells.size = inf.size := by
          cases hi : P.info? t with
          | none => rw [hi] at hb2; cases hb2
          | some inf => rw [hi] at hb2; exact ⟨inf, rfl, Nat.eq_of_beq_eq_true hb2⟩
        obtain ⟨w1, hr, hwr⟩ := run_storeCells (P := P) (o := o') (evL l y).cells.toList 0 w c e hB hsz hb1
        refine V1_skip ho rfl ?_ (next w1 hwr)
        simp only [execOp, Instr.storeAt, Instr.sureAddr, hx, Sem.run_bind, Sem.run_pure, Result.andThen_ok, storeVar, run_sizeOf hinf, hsize, ne_eq, not_true_eq_false, if_false, hr]
    · cases h
  · cases h
theorem VL_store {b o : Nat} {vs : List Value} {c : Array Value} {e : TypeId} (h : storeOp P ops l i = some (b, o, vs)) (hi : Nat.blt i ops.size = true) (hB : Own w b c e) (hsz : o + vs.length ≤ c.size) (next : ∀ w1, Wr w w1 b (setRow c o vs) e → VL r n ds P ops Q (i + 1) l w1) : VL r n ds P ops Q i l w :=
  VL_of_V1 hi (V1_store h hB hsz next)

/-! ### 6. Indexes -/
def indexOp (P : Program) (n : Nat) (ops : Array Oper) (l : List (Nat × Value)) (i : Nat) : Option (Nat × Nat × Nat × Nat × Nat × Int) :=
  match theOp ops l i with
  | some { dst := some d, op := .indexAddr t x ix, .. } =>
    match P.underlying t, evL l x, evL l ix with
    | some (.array len elem), .pointer (some ⟨b, o, none⟩), .int _ m => match (P.info? elem).map (·.size) with
      | some sz => bif Nat.blt d n then some (d, b, o, len, sz, m) else none
      | none => none
    | some (.slice elem), .slice (some ⟨b, o, none⟩) len _, .int _ m => match (P.info? elem).map (·.size) with
      | some sz => bif Nat.blt d n then some (d, b, o, len, sz, m) else none
      | none => none
    | _, _, _ => none
  | _ => none
theorem run_underlying' {P : Program} {t : TypeId} {d : TypeDesc} (h : P.underlying t = some d) (w : World) : (underlying t).run P w = .ok d w := by
  simp [underlying, program, Sem.run, h]
theorem V1_index {d b o len sz : Nat} {m : Int} (h : indexOp P n ops l i = some (d, b, o, len, sz, m)) (k : Nat) (hk : m = k) (hlt : k < len) (o' : Nat) (ho' : o + k * sz = o') (next : K ((d, .pointer (some ⟨b, o', none⟩)) :: l) w) : V1 r n ds P ops Q i l w K := by
  subst hk
  subst ho'
  unfold indexOp at h
  split at h
  · rename_i _ d' t x ix ty pos aft gd ho
    split at h
    · rename_i len' elem b' o' kd m' hu hx hix
      split at h
      · rename_i sz' hsz
        cases hb : Nat.blt d' n with
        | false => rw [hb] at h; cases h
        | true =>
          rw [hb] at h
          simp only [cond_true, Option.some.injEq, Prod.mk.injEq] at h
          obtain ⟨rfl, rfl, rfl, rfl, rfl, rfl⟩ := h
          obtain ⟨inf, hinf, hs⟩ := Option.map_eq_some_iff.1 hsz
          refine V1_value ho rfl hb ?_ next
          simp only [execOp, Instr.indexAt, hx, hix, asIntOf, run_underlying' hu, Instr.sureAddr, Sem.run_bind, Sem.run_pure, Result.andThen_ok, run_sizeOf hinf, Sem.run_ite]
          rw [if_pos ⟨by omega, by omega⟩]
          simp [add_none, hs]
      · cases h
    · rename_i elem b' o' len' cp kd m' hu hx hix
      split at h
      · rename_i sz' hsz
        cases hb : Nat.blt d' n with
        | false => rw [hb] at h; cases h
        | true =>
          rw [hb] at h
          simp only [cond_true, Option.some.injEq, Prod.mk.injEq] at h
          obtain ⟨rfl, rfl, rfl, rfl, rfl, rfl⟩ := h
          obtain ⟨inf, hinf, hs⟩ := Option.map_eq_some_iff.1 hsz
          refine V1_value ho rfl hb ?_ next
          simp only [execOp, Instr.indexAt, hx, hix, asIntOf, run_underlying' hu, Instr.sureAddr, Sem.run_bind, Sem.run_pure, Result.andThen_ok, run_sizeOf hinf, Sem.run_ite]
          rw [if_pos ⟨by omega, by omega⟩]
          simp [add_none, hs]
      · cases h
    · cases h
  · cases h
theorem VL_index {d b o len sz : Nat} {m : Int} (h : indexOp P n ops l i = some (d, b, o, len, sz, m)) (hi : Nat.blt i ops.size = true) (k : Nat) (hk : m = k) (hlt : k < len) (o' : Nat) (ho' : o + k * sz = o') (next : VL r n ds P ops Q (i + 1) ((d, .pointer (some ⟨b, o', none⟩)) :: l) w) : VL r n ds P ops Q i l w :=
  VL_of_V1 hi (V1_index h k hk hlt o' ho' next)
end
end Go.Vc
