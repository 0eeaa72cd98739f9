/- The calculus' maps: a map is a list of keys and values (each key once); making one, looking up, putting, deleting, counting. -/
import Derived.Test.YtfkahhkojlfmdaaVc5
import Derived.Test.YtfkahhkojlfmdaaVc9
set_option linter.unusedVariables false
set_option linter.unusedSimpArgs false
namespace Go.Vc
open Go.RowKit

/-! ### 1. Lists of keys and values -/
section
variable {κ ν : Type} [DecidableEq κ]
def getM : List (κ × ν) → κ → Option ν
  | [], _ => none
  | p :: L, k => if p.1 = k then some p.2 else getM L k
def putM : List (κ × ν) → κ → ν → List (κ × ν)
  | [], k, v => [(k, v)]
  | p :: L, k, v => if p.1 = k then (k, v) :: L else p :: putM L k v
def delM : List (κ × ν) → κ → List (κ × ν)
  | [], _ => []
  | p :: L, k => if p.1 = k then L else p :: delM L k
def posM : List (κ × ν) → κ → Nat → Option (Nat × ν)
  | [], _, _ => none
  | p :: L, k, i => if p.1 = k then some (i, p.2) else posM L k (i + 1)
abbrev Keys1 (L : List (κ × ν)) : Prop := (L.map (·.1)).Nodup

theorem getM_none {L : List (κ × ν)} {k : κ} : getM L k = none ↔ k ∉ L.map (·.1) := by
  induction L with
  | nil => simp [getM]
  | cons p L ih =>
    simp only [getM, List.map_cons, List.mem_cons, not_or]
    by_cases h : p.1 = k
    · simp [h]
    · rw [if_neg h, ih]
      exact ⟨fun x => ⟨fun e => h e.symm, x⟩, fun x => x.2⟩
theorem posM_get {L : List (κ × ν)} {k : κ} : ∀ i, (posM L k i).map (·.2) = getM L k := by
  induction L with
  | nil => intro i; rfl
  | cons p L ih => intro i; simp only [posM, getM]; split <;> simp [ih]
theorem posM_none {L : List (κ × ν)} {k : κ} {i : Nat} (h : posM L k i = none) : putM (ν := ν) L k = fun v => L ++ [(k, v)] := by
  funext v
  induction L generalizing i with
  | nil => rfl
  | cons p L ih =>
    simp only [posM] at h
    by_cases e : p.1 = k
    · rw [if_pos e] at h; cases h
    · rw [if_neg e] at h; simp only [putM, if_neg e, ih h, List.cons_append]
theorem posM_none_del {L : List (κ × ν)} {k : κ} {i : Nat} (h : posM L k i = none) : delM L k = L := by
  induction L generalizing i with
  | nil => rfl
  | cons p L ih =>
    simp only [posM] at h
    by_cases e : p.1 = k
    · rw [if_pos e] at h; cases h
    · rw [if_neg e] at h; simp only [delM, if_neg e, ih h]
theorem posM_some {L : List (κ × ν)} {k : κ} {i j : Nat} {v : ν} (h : posM L k i = some (j, v)) : ∃ q, j = i + q ∧ L[q]? = some (k, v) ∧ (∀ u, putM L k u = L.set q (k, u)) ∧ delM L k = L.eraseIdx q := by
  induction L generalizing i with
  | nil => cases h
  | cons p L ih =>
    simp only [posM] at h
    by_cases e : p.1 = k
    · rw [if_pos e] at h
      simp only [Option.some.injEq, Prod.mk.injEq] at h
      obtain ⟨rfl, rfl⟩ := h
      refine ⟨0, rfl, ?_, fun u => ?_, ?_⟩
      · subst e; rfl
      · simp [putM, e]
      · simp [delM, e]
    · rw [if_neg e] at h
      obtain ⟨q, h1, h2, h3, h4⟩ := ih h
      refine ⟨q + 1, by omega, by simpa using h2, fun u => ?_, ?_⟩
      · simp only [putM, if_neg e, h3, List.set_cons_succ]
      · simp only [delM, if_neg e, h4, List.eraseIdx_cons_succ]
theorem mem_putM {L : List (κ × ν)} {k x : κ} {v : ν} : x ∈ (putM L k v).map (·.1) ↔ x = k ∨ x ∈ L.map (·.1) := by
  induction L with
  | nil => simp [putM]
  | cons p L ih =>
    simp only [putM]
    by_cases e : p.1 = k
    · rw [if_pos e]; subst e; simp
    · rw [if_neg e]
      simp only [List.map_cons, List.mem_cons, ih]
      constructor
      · rintro (h | h | h)
        · exact .inr (.inl h)
        · exact .inl h
        · exact .inr (.inr h)
      · rintro (h | h | h)
        · exact .inr (.inl h)
        · exact .inl h
        · exact .inr (.inr h)
theorem Keys1.put {L : List (κ × ν)} (h : Keys1 L) (k : κ) (v : ν) : Keys1 (putM L k v) := by
  induction L with
  | nil => simp [putM, Keys1]
  | cons p L ih =>
    obtain ⟨h1, h2⟩ := List.nodup_cons.1 h
    simp only [putM]
    by_cases e : p.1 = k
    · rw [if_pos e]; subst e; exact List.nodup_cons.2 ⟨h1, h2⟩
    · rw [if_neg e]
      refine List.nodup_cons.2 ⟨fun hm => ?_, ih h2⟩
      rcases mem_putM.1 hm with h | h
      · exact e h
      · exact h1 h
theorem mem_delM {L : List (κ × ν)} {k x : κ} (h : x ∈ (delM L k).map (·.1)) : x ∈ L.map (·.1) := by
  induction L with
  | nil => exact h
  | cons p L ih =>
    simp only [delM] at h
    by_cases e : p.1 = k
    · rw [if_pos e] at h; exact List.mem_cons_of_mem _ h
    · rw [if_neg e] at h
      rcases List.mem_cons.1 h with h | h
      · rw [h]; exact List.mem_cons_self ..
      · exact List.mem_cons_of_mem _ (ih h)
theorem Keys1.del {L : List (κ × ν)} (h : Keys1 L) (k : κ) : Keys1 (delM L k) := by
  induction L with
  | nil => exact h
  | cons p L ih =>
    obtain ⟨h1, h2⟩ := List.nodup_cons.1 h
    simp only [delM]
    by_cases e : p.1 = k
    · rw [if_pos e]; exact h2
    · rw [if_neg e]; exact List.nodup_cons.2 ⟨fun hm => h1 (mem_delM hm), ih h2⟩
theorem getM_put (L : List (κ × ν)) (k : κ) (v : ν) (x : κ) : getM (putM L k v) x = if k = x then some v else getM L x := by
  induction L with
  | nil => simp [putM, getM]
  | cons p L ih =>
    simp only [putM]
    by_cases e : p.1 = k
    · rw [if_pos e]
      simp only [getM]
      subst e
      split <;> rfl
    · rw [if_neg e]
      simp only [getM, ih]
      by_cases h : p.1 = x
      · rw [if_pos h, if_neg (fun q => e (h.trans q.symm)), if_pos h]
      · rw [if_neg h, if_neg h]
theorem getM_del {L : List (κ × ν)} (h : Keys1 L) (k x : κ) : getM (delM L k) x = if k = x then none else getM L x := by
  induction L with
  | nil => simp [delM, getM]
  | cons p L ih =>
    obtain ⟨h1, h2⟩ := List.nodup_cons.1 h
    simp only [delM]
    by_cases e : p.1 = k
    · rw [if_pos e]
      by_cases hx : k = x
      · rw [if_pos hx]; exact getM_none.2 (by subst hx; subst e; exact h1)
      · rw [if_neg hx]; simp only [getM]; rw [if_neg (fun q => hx (e.symm.trans q))]
    · rw [if_neg e]
      simp only [getM, ih h2]
      by_cases h : p.1 = x
      · rw [if_pos h, if_neg (fun q => e (h.trans q.symm)), if_pos h]
      · rw [if_neg h, if_neg h]
theorem len_put (L : List (κ × ν)) (k : κ) (v : ν) : (putM L k v).length = if (getM L k).isSome then L.length else L.length + 1 := by
  induction L with
  | nil => rfl
  | cons p L ih =>
    by_cases e : p.1 = k
    · simp [putM, getM, e]
    · simp only [putM, getM, if_neg e, List.length_cons, ih]; split <;> rfl
theorem len_del (L : List (κ × ν)) (k : κ) : (delM L k).length = if (getM L k).isSome then L.length - 1 else L.length := by
  induction L with
  | nil => rfl
  | cons p L ih =>
    by_cases e : p.1 = k
    · simp [delM, getM, e]
    · simp only [delM, getM, if_neg e, List.length_cons, ih]
      split
      · rename_i h
        have : 0 < L.length := by cases L with
          | nil => simp [getM] at h
          | cons a L => simp
        omega
      · rfl
end

/-! ### 2. Types of keys -/
structure KeyT (P : Program) (kt : TypeId) {κ : Type} [DecidableEq κ] (ek : κ → Value) : Prop where
  check : ∀ e k w, (Instr.checkKey e 10000 kt (ek k)).run P w = .ok () w
  find : ∀ {ν : Type} (u : ν → Value) (k : κ) (es : List MapEntry) (L : List (κ × ν)) (w : World), es.map (fun e => (e.key, e.val)) = L.map (fun p => (ek p.1, u p.2)) → (Instr.findKey kt (ek k) es).run P w = .ok ((posM L k 0).map fun q => (q.1, u q.2)) w
  stays : ∀ k w, (Instr.keyThatStays (ek k) (ek k)).run P w = .ok (ek k) w

theorem keyT_int {P : Program} {kt : TypeId} {kk : IntKind} (h : P.underlying kt = some (.int kk)) : KeyT P kt (κ := Int) (fun x => .int kk x) where
  check e k w := by
    unfold Instr.checkKey
    simp only [Sem.run_bind, run_underlying' h, Result.andThen_ok]
    rfl
  find u k es L w he := by
    have key : ∀ (es : List MapEntry) L i, es.map (fun e => (e.key, e.val)) = L.map (fun p => (Value.int kk p.1, u p.2)) → Instr.findNow (.int kk) (.int kk k) es i = some ((posM L k i).map fun q => (q.1, u q.2)) := by
      intro es
      induction es with
      | nil => intro L i h; cases L; rfl; cases h
      | cons e es ih =>
        intro L i h
        cases L with
        | nil => cases h
        | cons p L =>
          simp only [List.map_cons, List.cons.injEq, Prod.mk.injEq] at h
          obtain ⟨⟨h1, h2⟩, h3⟩ := h
          simp only [Instr.findNow, h1, Instr.sameNow, if_true, posM]
          by_cases e : p.1 = k
          · subst e; simp [h2]
          · have : (k == p.1) = false := by simpa using fun q => e q.symm
            simp only [this, if_neg e, ih L (i + 1) h3]
    simp only [Instr.findKey, Sem.run_bind, run_underlying' h, Result.andThen_ok, key es L 0 he, Sem.run_pure]
  stays k w := by
    have : Instr.sameBits 10000 (.int kk k) (.int kk k) = true := by
      unfold Instr.sameBits; simp
    unfold Instr.keyThatStays
    rw [this]
    rfl

def structB (P : Program) (t : TypeId) : Bool := match P.underlying t with | some (.struct _) => true | _ => false
/-- Structs: of cells that are numbers and the like. -/
theorem keyT_agg {P : Program} {kt : TypeId} {κ : Type} [DecidableEq κ] (cs : κ → List Value) (ls : List Leaf) (dd : Nat) (hl : leaves P dd kt = some ls) (hdd : Nat.ble dd 10000 = true) (hagg : isAggB P kt = true) (hcs : ∀ k, CellsAre (cs k) ls) (hinj : ∀ j k, cs j = cs k → j = k)
    (hchk : ∀ e k, pureVal P (Instr.checkKey e 10000 kt (.agg (cs k).toArray)) = some ()) (hbits : ∀ k, Instr.sameBits 10000 (.agg (cs k).toArray) (.agg (cs k).toArray) = true) (hst : structB P kt = true) : KeyT P kt (fun k => .agg (cs k).toArray) where
  check e k w := pureVal_run (hchk e k) w
  find u k es L w he := by
    have key : ∀ (es : List MapEntry) L i, es.map (fun e => (e.key, e.val)) = L.map (fun p => (Value.agg (cs p.1).toArray, u p.2)) → (Instr.findAsking kt (.agg (cs k).toArray) es i).run P w = .ok ((posM L k i).map fun q => (q.1, u q.2)) w := by
      intro es
      induction es with
      | nil => intro L i h; cases L; rfl; cases h
      | cons e es ih =>
        intro L i h
        cases L with
        | nil => cases h
        | cons p L =>
          simp only [List.map_cons, List.cons.injEq, Prod.mk.injEq] at h
          obtain ⟨⟨h1, h2⟩, h3⟩ := h
          have he := equalIn_run (P := P) dd kt ls (cs k) (cs p.1) hl (hcs _) (hcs _) Op.maxDepth (Nat.le_of_ble_eq_true hdd) w
          simp only [asVal, hagg, cond_true] at he
          have he : (Op.equal kt (.agg (cs k).toArray) e.key).run P w = .ok (cellsEq (cs k) (cs p.1)) w := by rw [h1]; exact he
          simp only [Instr.findAsking, Sem.run_bind, he, Result.andThen_ok, posM]
          by_cases e : p.1 = k
          · have h9 : cellsEq (cs k) (cs p.1) = true := (cellsEq_iff (hcs _) (hcs _)).2 (by rw [e])
            rw [h9, if_pos e, h2]
            rfl
          · have : cellsEq (cs k) (cs p.1) = false := by
              cases hq : cellsEq (cs k) (cs p.1) with
              | false => rfl
              | true => exact absurd (hinj _ _ ((cellsEq_iff (hcs _) (hcs _)).1 hq)).symm e
            simp only [this, Bool.false_eq_true, if_false, if_neg e]
            exact ih L (i + 1) h3
    obtain ⟨d, hd, hs⟩ : ∃ d, P.underlying kt = some d ∧ ∀ x y, Instr.sameNow d (.agg x) y = none := by
      unfold structB at hst
      cases hu : P.underlying kt with
      | none => rw [hu] at hst; cases hst
      | some d => rw [hu] at hst; cases d <;> first | exact ⟨_, rfl, fun x y => rfl⟩ | cases hst
    simp only [Instr.findKey, Sem.run_bind, run_underlying' hd, Result.andThen_ok]
    cases es with
    | nil => cases L; rfl; cases he
    | cons e es =>
      have : Instr.findNow d (.agg (cs k).toArray) (e :: es) 0 = none := by simp only [Instr.findNow, hs]
      simp only [this]
      exact key (e :: es) L 0 he
  stays k w := by
    unfold Instr.keyThatStays
    rw [hbits k]
    rfl

/-! ### 3. A map's block -/
def MapL {κ ν : Type} (w : World) (m : Nat) (ek : κ → Value) (u : ν → Value) (L : List (κ × ν)) : Prop :=
  (∃ es ck, w.heap[m]? = some (.map es ck) ∧ es.toList.map (fun e => (e.key, e.val)) = L.map (fun p => (ek p.1, u p.2))) ∧ Keys1 L
section
variable {κ ν : Type} {w w' w1 : World} {m : Nat} {ek : κ → Value} {u : ν → Value} {L : List (κ × ν)} {F : Nat → Prop}
theorem MapL.lt (h : MapL w m ek u L) : m < w.heap.size := by obtain ⟨⟨es, ck, h, _⟩, _⟩ := h; exact (Array.getElem?_eq_some_iff.1 h).1
theorem MapL.keys (h : MapL w m ek u L) : Keys1 L := h.2
theorem MapL.step (h : MapL w m ek u L) (hs : Step F w w') (hF : ¬ F m) : MapL w' m ek u L := by
  have hl := h.lt
  obtain ⟨⟨es, ck, h, h2⟩, h3⟩ := h
  exact ⟨⟨es, ck, (hs.block m hl hF).trans h, h2⟩, h3⟩
theorem MapL.no (h : MapL w m ek u L) (hs : Step No w w') : MapL w' m ek u L := h.step hs id
theorem New.map (h : New w w' m (.map #[] 0)) (ek : κ → Value) (u : ν → Value) : MapL w' m ek u [] := ⟨⟨#[], 0, h.get, rfl⟩, List.nodup_nil⟩
theorem set_step {w : World} {m : Nat} {o o' : Obj} (h : w.heap[m]? = some o) : Step (Just m) w { w with heap := w.heap.setIfInBounds m o' } ∧ ({ w with heap := w.heap.setIfInBounds m o' } : World).heap.size = w.heap.size ∧ ({ w with heap := w.heap.setIfInBounds m o' } : World).heap[m]? = some o' := by
  have hlt : m < w.heap.size := (Array.getElem?_eq_some_iff.1 h).1
  refine ⟨⟨rfl, rfl, rfl, by simp, fun k hk hne => ?_⟩, by simp, by simp [hlt]⟩
  have hne : k ≠ m := hne
  simp [Ne.symm hne]
end

section
variable {κ ν : Type} {r : Option Nat} {n : Nat} {ds : List Deferred} {P : Program} {ops : Array Oper} {Q : Exit → Act → World → Prop} {l : List (Nat × Value)} {w : World} {i : Nat} {K : List (Nat × Value) → World → Prop} {ek : κ → Value} {u : ν → Value} {L : List (κ × ν)}
theorem run_getObj' {w : World} {m : Nat} {es : Array MapEntry} {ck : Nat} (h : w.heap[m]? = some (.map es ck)) : (getObj m).run P w = .ok (.map es ck) w := by simp [getObj, Sem.run, h]
/-! ### 3b. Counting -/
def mlenOp (P : Program) (n : Nat) (ops : Array Oper) (l : List (Nat × Value)) (i : Nat) : Option (Nat × Nat) :=
  match theOp ops l i with
  | some { dst := some d, op := .call { callee := .builtin .len, args := ags, argTypes := ts }, .. } =>
    match ((ts[0]?).bind P.underlying : Option TypeDesc), ((ags.map (evL l))[0]? : Option Value) with
    | some (TypeDesc.map _ _), some (Value.map (some m)) => bif Nat.blt d n then some (d, m) else none
    | _, _ => none
  | _ => none
theorem V1_mlen {d m : Nat} (h : mlenOp P n ops l i = some (d, m)) (hm : MapL w m ek u L) (next : K ((d, .int .i64 ((L.length : Nat) : Int)) :: l) w) : V1 r n ds P ops Q i l w K := by
  unfold mlenOp at h
  split at h
  · rename_i _ d' ags ts ty pos aft gd ho
    split at h
    · rename_i kt et m' hu hx
      cases hb : Nat.blt d' n with
      | false => rw [hb] at h; cases h
      | true =>
        rw [hb] at h
        simp only [cond_true, Option.some.injEq, Prod.mk.injEq] at h
        obtain ⟨rfl, rfl⟩ := h
        obtain ⟨t, ht, hu'⟩ := Option.bind_eq_some_iff.1 hu
        obtain ⟨⟨es, ck, hes, heq⟩, hnd⟩ := hm
        have hlen : es.size = L.length := by have := congrArg List.length heq; simpa using this
        refine V1_value ho rfl hb ?_ next
        simp only [execOp, resolve, invoke, builtin, Builtin.len_, Sem.run_bind, Sem.run_pure, Result.andThen_ok, hx, ht, run_underlying' hu', run_getObj' hes, goInt, hlen]
    · cases h
  · cases h
theorem VL_mlen {d m : Nat} (h : mlenOp P n ops l i = some (d, m)) (hi : Nat.blt i ops.size = true) (hm : MapL w m ek u L) (next : VL r n ds P ops Q (i + 1) ((d, .int .i64 ((L.length : Nat) : Int)) :: l) w) : VL r n ds P ops Q i l w := VL_of_V1 hi (V1_mlen h hm next)

end
section
variable {κ ν : Type} [DecidableEq κ] {r : Option Nat} {n : Nat} {ds : List Deferred} {P : Program} {ops : Array Oper} {Q : Exit → Act → World → Prop} {l : List (Nat × Value)} {w : World} {i : Nat} {K : List (Nat × Value) → World → Prop} {ek : κ → Value} {u : ν → Value} {L : List (κ × ν)}
theorem run_setObj' {w : World} {m : Nat} {es : Array MapEntry} {ck : Nat} (o : Obj) (h : w.heap[m]? = some (.map es ck)) : (setObj m o).run P w = .ok () { w with heap := w.heap.setIfInBounds m o } := by simp [setObj, Sem.run, h]

/-! ### 4. Making one -/
def mkMapOp (n : Nat) (ops : Array Oper) (l : List (Nat × Value)) (i : Nat) : Option Nat :=
  match theOp ops l i with
  | some { dst := some d, op := .makeMap _ none, .. } => bif Nat.blt d n then some d else none
  | _ => none
theorem V1_mkMap {d : Nat} (h : mkMapOp n ops l i = some d) (next : ∀ m w1, New w w1 m (.map #[] 0) → K ((d, .map (some m)) :: l) w1) : V1 r n ds P ops Q i l w K := by
  unfold mkMapOp at h
  split at h
  · rename_i _ d' t ty pos aft gd ho
    cases hb : Nat.blt d' n with
    | false => rw [hb] at h; cases h
    | true =>
      rw [hb] at h
      simp only [cond_true, Option.some.injEq] at h
      subst h
      refine V1_value ho rfl hb ?_ (next w.heap.size _ ⟨rfl, rfl⟩)
      simp only [execOp, Instr.makeMap, Option.map_none, newObj, Sem.run_bind, Sem.run, Result.andThen_ok, Sem.run_pure]
      rfl
  · cases h
theorem VL_mkMap {d : Nat} (h : mkMapOp n ops l i = some d) (hi : Nat.blt i ops.size = true) (next : ∀ m w1, New w w1 m (.map #[] 0) → VL r n ds P ops Q (i + 1) ((d, .map (some m)) :: l) w1) : VL r n ds P ops Q i l w := VL_of_V1 hi (V1_mkMap h next)

/-! ### 5. Looking up -/
def lookOp (P : Program) (n : Nat) (ops : Array Oper) (l : List (Nat × Value)) (i : Nat) : Option (Nat × Nat × TypeId × Value × Value × Bool) :=
  match theOp ops l i with
  | some { dst := some d, op := .lookup t x ix ok, .. } => match P.underlying t, evL l x with
    | some (.map kt et), .map (some m) => match (P.info? et).bind (·.zero) with
      | some z => bif Nat.blt d n then some (d, m, kt, z, evL l ix, ok) else none
      | none => none
    | _, _ => none
  | _ => none
theorem V1_lookup {d m : Nat} {kt : TypeId} {z : Value} {k : κ} {ok : Bool} (h : lookOp P n ops l i = some (d, m, kt, z, ek k, ok)) (hk : KeyT P kt ek) (hm : MapL w m ek u L) (v : Value) (hv : ((getM L k).map u).getD z = v) (next : K ((d, if ok then .tuple #[v, .bool (getM L k).isSome] else v) :: l) w) : V1 r n ds P ops Q i l w K := by
  unfold lookOp at h
  split at h
  · rename_i _ d' t x ix ok' ty pos aft gd ho
    split at h
    · rename_i kt' et m' hu hx
      split at h
      · rename_i z' hz
        cases hb : Nat.blt d' n with
        | false => rw [hb] at h; cases h
        | true =>
          rw [hb] at h
          simp only [cond_true, Option.some.injEq, Prod.mk.injEq] at h
          obtain ⟨rfl, rfl, rfl, rfl, hix, rfl⟩ := h
          obtain ⟨inf, hinf, hzz⟩ := Option.bind_eq_some_iff.1 hz
          obtain ⟨⟨es, ck, hes, heq⟩, _⟩ := hm
          have hzv : (zeroValue et).run P w = .ok z' w := by simp [zeroValue, typeInfo, program, Sem.run, hinf, hzz]
          refine V1_value ho rfl hb ?_ next
          have hp := posM_get (L := L) (k := k) 0
          simp only [execOp, Instr.lookup, Sem.run_bind, run_underlying' hu, Result.andThen_ok, hx, run_getObj' hes, Sem.run_pure, hix, hk.check, hk.find u k es.toList L w heq]
          cases hq : posM L k 0 with
          | none =>
            rw [hq] at hp
            rw [← hp] at hv
            simp only [Option.map_none, Option.getD_none] at hv
            simp only [Option.map_none, Sem.run_bind, hzv, Result.andThen_ok, Sem.run_pure, ← hp, hv, Option.isSome_none]
          | some q =>
            rw [hq] at hp
            rw [← hp] at hv
            simp only [Option.map_some, Option.getD_some] at hv
            simp only [Option.map_some, Sem.run_bind, Result.andThen_ok, Sem.run_pure, ← hp, hv, Option.isSome_some]
      · cases h
    · cases h
  · cases h
theorem VL_lookup {d m : Nat} {kt : TypeId} {z : Value} {k : κ} {ok : Bool} (h : lookOp P n ops l i = some (d, m, kt, z, ek k, ok)) (hi : Nat.blt i ops.size = true) (hk : KeyT P kt ek) (hm : MapL w m ek u L) (v : Value) (hv : ((getM L k).map u).getD z = v) (next : VL r n ds P ops Q (i + 1) ((d, if ok then .tuple #[v, .bool (getM L k).isSome] else v) :: l) w) : VL r n ds P ops Q i l w := VL_of_V1 hi (V1_lookup h hk hm v hv next)

/-! ### 6. Putting -/
structure WrM (w w' : World) (m : Nat) (ek : κ → Value) (u : ν → Value) (L : List (κ × ν)) : Prop where
  map : MapL w' m ek u L
  same : w'.heap.size = w.heap.size
  step : Step (Just m) w w'
def updOp (P : Program) (ops : Array Oper) (l : List (Nat × Value)) (i : Nat) : Option (Nat × TypeId × Value × Value) :=
  match theOp ops l i with
  | some { dst := none, op := .mapUpdate t x k y, .. } => match P.underlying t, evL l x with
    | some (.map kt _), .map (some m) => some (m, kt, evL l k, evL l y)
    | _, _ => none
  | _ => none
theorem run_upd {m : Nat} {t kt et : TypeId} {k : κ} {v : ν} (ht : P.underlying t = some (.map kt et)) (hk : KeyT P kt ek) (hm : MapL w m ek u L) : ∃ w1, (Instr.mapUpdate t (.map (some m)) (ek k) (u v)).run P w = .ok () w1 ∧ WrM w w1 m ek u (putM L k v) := by
  have hmm := hm
  obtain ⟨⟨es, ck, hes, heq⟩, hnd⟩ := hm
  have hf := hk.find u k es.toList L w heq
  cases hq : posM L k 0 with
  | none =>
    rw [hq] at hf
    obtain ⟨s1, s2, s3⟩ := set_step (o' := .map (es.push { key := ek k, val := u v, born := ck }) (ck + 1)) hes
    refine ⟨_, ?_, ?_, s2, s1⟩
    · simp only [Instr.mapUpdate, Sem.run_bind, run_underlying' ht, Result.andThen_ok, run_getObj' hes, hk.check, hf, Option.map_none, run_setObj' _ hes]
    · refine ⟨⟨_, _, s3, ?_⟩, hnd.put k v⟩
      rw [posM_none hq]
      simp [heq]
  | some q =>
    obtain ⟨j, y⟩ := q
    rw [hq] at hf
    obtain ⟨q, h1, h2, h3, _⟩ := posM_some hq
    have hj : j = q := by omega
    subst hj
    have hlen : es.toList.length = L.length := by have := congrArg List.length heq; simpa using this
    have hlt : j < L.length := (List.getElem?_eq_some_iff.1 h2).1
    have hsz : es.size = L.length := by simpa using hlen
    obtain ⟨ej, hej⟩ : ∃ x, es[j]? = some x := ⟨_, Array.getElem?_eq_getElem (by omega)⟩
    have hkey : ej.key = ek k := by
      have h9 := congrArg (fun z => z[j]?) heq
      simp only [List.getElem?_map, h2, Option.map_some, Array.getElem?_toList, hej, Option.some.injEq, Prod.mk.injEq] at h9
      exact h9.1
    obtain ⟨s1, s2, s3⟩ := set_step (o' := .map (es.modify j fun e => { e with key := ek k, val := u v }) ck) hes
    refine ⟨_, ?_, ?_, s2, s1⟩
    · simp only [Instr.mapUpdate, Sem.run_bind, run_underlying' ht, Result.andThen_ok, run_getObj' hes, hk.check, hf, Option.map_some, hej, Option.getD_some, hkey, hk.stays, run_setObj' _ hes]
    · refine ⟨⟨_, _, s3, ?_⟩, hnd.put k v⟩
      rw [h3]
      apply List.ext_getElem?
      intro a
      have h9 := congrArg (fun z => z[a]?) heq
      simp only [List.getElem?_map, Array.getElem?_toList] at h9
      simp only [List.getElem?_map, Array.getElem?_toList, Array.getElem?_modify, List.getElem?_set]
      by_cases e : j = a
      · subst e
        rw [if_pos rfl, if_pos rfl, if_pos hlt, hej]; rfl
      · rw [if_neg e, if_neg e]; exact h9
theorem V1_upd {m : Nat} {kt : TypeId} {k : κ} {v : ν} (h : updOp P ops l i = some (m, kt, ek k, u v)) (hk : KeyT P kt ek) (hm : MapL w m ek u L) (next : ∀ w1, WrM w w1 m ek u (putM L k v) → K l w1) : V1 r n ds P ops Q i l w K := by
  unfold updOp at h
  split at h
  · rename_i _ t x kx y ty pos aft gd ho
    split at h
    · rename_i kt' et m' hu hx
      simp only [Option.some.injEq, Prod.mk.injEq] at h
      obtain ⟨rfl, rfl, h1, h2⟩ := h
      obtain ⟨w1, hr, hw⟩ := run_upd (v := v) (k := k) hu hk hm
      refine V1_skip ho rfl ?_ (next w1 hw)
      simp only [execOp, hx, h1, h2, Sem.run_bind, hr, Result.andThen_ok, Sem.run_pure]
    · cases h
  · cases h
theorem VL_upd {m : Nat} {kt : TypeId} {k : κ} {v : ν} (h : updOp P ops l i = some (m, kt, ek k, u v)) (hi : Nat.blt i ops.size = true) (hk : KeyT P kt ek) (hm : MapL w m ek u L) (next : ∀ w1, WrM w w1 m ek u (putM L k v) → VL r n ds P ops Q (i + 1) l w1) : VL r n ds P ops Q i l w := VL_of_V1 hi (V1_upd h hk hm next)

/-! ### 7. Deleting -/
theorem map_eraseIdx' {α β : Type} (f : α → β) : ∀ (l : List α) (j : Nat), (l.eraseIdx j).map f = (l.map f).eraseIdx j
  | [], _ => rfl
  | _ :: _, 0 => rfl
  | a :: l, j + 1 => by simp only [List.eraseIdx_cons_succ, List.map_cons, map_eraseIdx' f l j]
theorem V1_value0 {o : Oper} {v : Value} {w1 : World} (ho : theOp ops l i = some o) (hd : o.dst = none) (hrun : (execOp (evL l) o).run P w = .ok (.value v) w1) (h : K l w1) : V1 r n ds P ops Q i l w K := by
  obtain ⟨h1, h2, h3⟩ := theOp_spec ho
  refine V1_run h1 h2 h3 fun a ha => ?_
  rw [hrun]
  exact ⟨_, by rw [hd]; exact ha, h⟩
def delOp (P : Program) (ops : Array Oper) (l : List (Nat × Value)) (i : Nat) : Option (Nat × TypeId × Value) :=
  match theOp ops l i with
  | some { dst := none, op := .call { callee := .builtin .delete, args := ags, argTypes := ts }, .. } =>
    match ((ts[0]?).bind P.underlying : Option TypeDesc), ((ags.map (evL l))[0]? : Option Value), ((ags.map (evL l))[1]? : Option Value) with
    | some (TypeDesc.map kt _), some (Value.map (some m)), some k => some (m, kt, k)
    | _, _, _ => none
  | _ => none
theorem V1_del {m : Nat} {kt : TypeId} {k : κ} (h : delOp P ops l i = some (m, kt, ek k)) (hk : KeyT P kt ek) (hm : MapL w m ek u L) (next : ∀ w1, WrM w w1 m ek u (delM L k) → K l w1) : V1 r n ds P ops Q i l w K := by
  unfold delOp at h
  split at h
  · rename_i _ ags ts ty pos aft gd ho
    split at h
    · rename_i kt' et m' k' hu hx hy
      simp only [Option.some.injEq, Prod.mk.injEq] at h
      obtain ⟨rfl, rfl, rfl⟩ := h
      obtain ⟨t, ht, hu'⟩ := Option.bind_eq_some_iff.1 hu
      obtain ⟨⟨es, ck, hes, heq⟩, hnd⟩ := hm
      have hf := hk.find u k es.toList L w heq
      cases hq : posM L k 0 with
      | none =>
        rw [hq] at hf
        obtain ⟨s1, s2, s3⟩ := set_step (o' := .map es ck) hes
        refine V1_value0 (v := .tuple #[]) ho rfl ?_ (next _ ⟨⟨⟨_, _, s3, ?_⟩, hnd.del k⟩, s2, s1⟩)
        · simp only [execOp, resolve, invoke, builtin, Builtin.delete_, Sem.run_bind, Sem.run_pure, Result.andThen_ok, hx, hy, ht, run_underlying' hu', run_getObj' hes, hk.check, hf, Option.map_none, run_setObj' _ hes]
        · rw [posM_none_del hq]; exact heq
      | some q =>
        obtain ⟨j, y⟩ := q
        rw [hq] at hf
        obtain ⟨q, h1, h2, _, h4⟩ := posM_some hq
        have hj : j = q := by omega
        subst hj
        obtain ⟨s1, s2, s3⟩ := set_step (o' := .map (es.eraseIdxIfInBounds j) ck) hes
        refine V1_value0 (v := .tuple #[]) ho rfl ?_ (next _ ⟨⟨⟨_, _, s3, ?_⟩, hnd.del k⟩, s2, s1⟩)
        · simp only [execOp, resolve, invoke, builtin, Builtin.delete_, Sem.run_bind, Sem.run_pure, Result.andThen_ok, hx, hy, ht, run_underlying' hu', run_getObj' hes, hk.check, hf, Option.map_some, run_setObj' _ hes]
        · rw [h4, Array.toList_eraseIdxIfInBounds, map_eraseIdx', heq, map_eraseIdx']
    · cases h
  · cases h
theorem VL_del {m : Nat} {kt : TypeId} {k : κ} (h : delOp P ops l i = some (m, kt, ek k)) (hi : Nat.blt i ops.size = true) (hk : KeyT P kt ek) (hm : MapL w m ek u L) (next : ∀ w1, WrM w w1 m ek u (delM L k) → VL r n ds P ops Q (i + 1) l w1) : VL r n ds P ops Q i l w := VL_of_V1 hi (V1_del h hk hm next)

/-! ### 9. In regions that are walked in one order -/
variable {tbl : List (List Nat)} {mm : Nat} {R : World → World → Prop} {ch : List Nat}
theorem VT_lookup {q d m : Nat} {kt : TypeId} {z : Value} {k : κ} {ok : Bool} {is : List Nat} {kn : List (Nat × Value)} (h : lookOp P n ops (lkn ops tbl mm l kn q) q = some (d, m, kt, z, ek k, ok)) (hd : dstOf ops q = some d) (hk : KeyT P kt ek) (hm : ∀ w', R w w' → MapL w' m ek u L) (v : Value) (hv : ((getM L k).map u).getD z = v) (next : VT r n ds P ops Q tbl mm l R ch is ((q, if ok then .tuple #[v, .bool (getM L k).isSome] else v) :: kn) w) : VT r n ds P ops Q tbl mm l R ch (q :: is) kn w :=
  VT_float _ (fun w' hR => V1_lookup h hk (hm w' hR) v hv ⟨⟨d, hd, look_head⟩, Step.refl _ _⟩) next
theorem VTc_upd {q m : Nat} {kt : TypeId} {k : κ} {v : ν} {is : List Nat} {kn : List (Nat × Value)} (h : updOp P ops (lkn ops tbl mm l kn q) q = some (m, kt, ek k, u v)) (hd : dstOf ops q = none) (hk : KeyT P kt ek) (hm : MapL w m ek u L) (hR : ∀ w1, WrM w w1 m ek u (putM L k v) → R w w1) (next : ∀ w1, WrM w w1 m ek u (putM L k v) → VT r n ds P ops Q tbl mm l R ch is kn w1) : VTc r n ds P ops Q tbl mm l R ch q is kn w :=
  (V1_upd h hk hm fun w1 hw => ⟨hR w1 hw, .inr ⟨hd, next w1 hw⟩⟩)
theorem VTc_mkMap {q d : Nat} {is : List Nat} {kn : List (Nat × Value)} (h : mkMapOp n ops (lkn ops tbl mm l kn q) q = some d) (hd : dstOf ops q = some d) (hR : ∀ b w1, New w w1 b (.map #[] 0) → R w w1) (next : ∀ b w1, New w w1 b (.map #[] 0) → VT r n ds P ops Q tbl mm l R ch is ((q, .map (some b)) :: kn) w1) : VTc r n ds P ops Q tbl mm l R ch q is kn w :=
  (V1_mkMap h fun b w1 hn => ⟨hR b w1 hn, .inl ⟨_, d, hd, look_head, next b w1 hn⟩⟩)
end
end Go.Vc
