import Derived.Test.YthchmlidobgkoaaProg
import Derived.Test.YthchmlidobgkoaaMl2
section
/- The calculus' maps: a map is a list of keys and values (each key once); making one, looking up, putting, deleting, counting. -/
set_option linter.unusedVariables false
set_option linter.unusedSimpArgs false
namespace Go.Vc
open Go.RowKit

/-! ### 1. Lists of keys and values -/
section
variable {κ ν : Type} [DecidableEq κ]
def getM : List (κ × ν) → κ → Option ν
  | [], _ => none
  | p :: L, k => if p.1 = k then some p.2 else getM L k
def putM : List (κ × ν) → κ → ν → List (κ × ν)
  | [], k, v => [(k, v)]
  | p :: L, k, v => if p.1 = k then (k, v) :: L else p :: putM L k v
def delM : List (κ × ν) → κ → List (κ × ν)
  | [], _ => []
  | p :: L, k => if p.1 = k then L else p :: delM L k
def posM : List (κ × ν) → κ → Nat → Option (Nat × ν)
  | [], _, _ => none
  | p :: L, k, i => if p.1 = k then some (i, p.2) else posM L k (i + 1)
abbrev Keys1 (L : List (κ × ν)) : Prop := (L.map (·.1)).Nodup

theorem getM_none {L : List (κ × ν)} {k : κ} : getM L k = none ↔ k ∉ L.map (·.1) := by
  induction L with
  | nil => simp [getM]
  | cons p L ih =>
    simp only [getM, List.map_cons, List.mem_cons, not_or]
    by_cases h : p.1 = k
    · simp [h]
    · rw [if_neg h, ih]
      exact ⟨fun x => ⟨fun e => h e.symm, x⟩, fun x => x.2⟩
theorem posM_get {L : List (κ × ν)} {k : κ} : ∀ i, (posM L k i).map (·.2) = getM L k := by
  induction L with
  | nil => intro i; rfl
  | cons p L ih => intro i; simp only [posM, getM]; split <;> simp [ih]
theorem posM_none {L : List (κ × ν)} {k : κ} {i : Nat} (h : posM L k i = none) : putM (ν := ν) L k = fun v => L ++ [(k, v)] := by
  funext v
  induction L generalizing i with
  | nil => rfl
  | cons p L ih =>
    simp only [posM] at h
    by_cases e : p.1 = k
    · rw [if_pos e] at h; cases h
    · rw [if_neg e] at h; simp only [putM, if_neg e, ih h, List.cons_append]
theorem posM_none_del {L : List (κ × ν)} {k : κ} {i : Nat} (h : posM L k i = none) : delM L k = L := by
  induction L generalizing i with
  | nil => rfl
  | cons p L ih =>
    simp only [posM] at h
    by_cases e : p.1 = k
    · rw [if_pos e] at h; cases h
    · rw [if_neg e] at h; simp only [delM, if_neg e, ih h]
theorem posM_some {L : List (κ × ν)} {k : κ} {i j : Nat} {v : ν} (h : posM L k i = some (j, v)) : ∃ q, j = i + q ∧ L[q]? = some (k, v) ∧ (∀ u, putM L k u = L.set q (k, u)) ∧ delM L k = L.eraseIdx q := by
  induction L generalizing i with
  | nil => cases h
  | cons p L ih =>
    simp only [posM] at h
    by_cases e : p.1 = k
    · rw [if_pos e] at h
      simp only [Option.some.injEq, Prod.mk.injEq] at h
      obtain ⟨rfl, rfl⟩ := h
      refine ⟨0, rfl, ?_, fun u => ?_, ?_⟩
      · subst e; rfl
      · simp [putM, e]
      · simp [delM, e]
    · rw [if_neg e] at h
      obtain ⟨q, h1, h2, h3, h4⟩ := ih h
      refine ⟨q + 1, by omega, by simpa using h2, fun u => ?_, ?_⟩
      · simp only [putM, if_neg e, h3, List.set_cons_succ]
      · simp only [delM, if_neg e, h4, List.eraseIdx_cons_succ]
theorem mem_putM {L : List (κ × ν)} {k x : κ} {v : ν} : x ∈ (putM L k v).map (·.1) ↔ x = k ∨ x ∈ L.map (·.1) := by
  induction L with
  | nil => simp [putM]
  | cons p L ih =>
    simp only [putM]
    by_cases e : p.1 = k
    · rw [if_pos e]; subst e; simp
    · rw [if_neg e]
      simp only [List.map_cons, List.mem_cons, ih]
      constructor
      · rintro (h | h | h)
        · exact .inr (.inl h)
        · exact .inl h
        · exact .inr (.inr h)
      · rintro (h | h | h)
        · exact .inr (.inl h)
        · exact .inl h
        · exact .inr (.inr h)
theorem Keys1.put {L : List (κ × ν)} (h : Keys1 L) (k : κ) (v : ν) : Keys1 (putM L k v) := by
  induction L with
  | nil => simp [putM, Keys1]
  | cons p L ih =>
    obtain ⟨h1, h2⟩ := List.nodup_cons.1 h
    simp only [putM]
    by_cases e : p.1 = k
    · rw [if_pos e]; subst e; exact List.nodup_cons.2 ⟨h1, h2⟩
    · rw [if_neg e]
      refine List.nodup_cons.2 ⟨fun hm => ?_, ih h2⟩
      rcases mem_putM.1 hm with h | h
      · exact e h
      · exact h1 h
theorem mem_delM {L : List (κ × ν)} {k x : κ} (h : x ∈ (delM L k).map (·.1)) : x ∈ L.map (·.1) := by
  induction L with
  | nil => exact h
  | cons p L ih =>
    simp only [delM] at h
    by_cases e : p.1 = k
    · rw [if_pos e] at h; exact List.mem_cons_of_mem _ h
    · rw [if_neg e] at h
      rcases List.mem_cons.1 h with h | h
      · rw [h]; exact List.mem_cons_self ..
      · exact List.mem_cons_of_mem _ (ih h)
theorem Keys1.del {L : List (κ × ν)} (h : Keys1 L) (k : κ) : Keys1 (delM L k) := by
  induction L with
  | nil => exact h
  | cons p L ih =>
    obtain ⟨h1, h2⟩ := List.nodup_cons.1 h
    simp only [delM]
    by_cases e : p.1 = k
    · rw [if_pos e]; exact h2
    · rw [if_neg e]; exact List.nodup_cons.2 ⟨fun hm => h1 (mem_delM hm), ih h2⟩
theorem getM_put (L : List (κ × ν)) (k : κ) (v : ν) (x : κ) : getM (putM L k v) x = if k = x then some v else getM L x := by
  induction L with
  | nil => simp [putM, getM]
  | cons p L ih =>
    simp only [putM]
    by_cases e : p.1 = k
    · rw [if_pos e]
      simp only [getM]
      subst e
      split <;> rfl
    · rw [if_neg e]
      simp only [getM, ih]
      by_cases h : p.1 = x
      · rw [if_pos h, if_neg (fun q => e (h.trans q.symm)), if_pos h]
      · rw [if_neg h, if_neg h]
theorem getM_del {L : List (κ × ν)} (h : Keys1 L) (k x : κ) : getM (delM L k) x = if k = x then none else getM L x := by
  induction L with
  | nil => simp [delM, getM]
  | cons p L ih =>
    obtain ⟨h1, h2⟩ := List.nodup_cons.1 h
    simp only [delM]
    by_cases e : p.1 = k
    · rw [if_pos e]
      by_cases hx : k = x
      · rw [if_pos hx]; exact getM_none.2 (by subst hx; subst e; exact h1)
      · rw [if_neg hx]; simp only [getM]; rw [if_neg (fun q => hx (e.symm.trans q))]
    · rw [if_neg e]
      simp only [getM, ih h2]
      by_cases h : p.1 = x
      · rw [if_pos h, if_neg (fun q => e (h.trans q.symm)), if_pos h]
      · rw [if_neg h, if_neg h]
end

/-! ### 2. Types of keys -/
structure KeyT (P : Program) (kt : TypeId) {κ : Type} [DecidableEq κ] (ek : κ → Value) : Prop where
  check : ∀ e k w, (Instr.checkKey e 10000 kt (ek k)).run P w = .ok () w
  find : ∀ {ν : Type} (u : ν → Value) (k : κ) (es : List MapEntry) (L : List (κ × ν)) (w : World), es.map (fun e => (e.key, e.val)) = L.map (fun p => (ek p.1, u p.2)) → (Instr.findKey kt (ek k) es).run P w = .ok ((posM L k 0).map fun q => (q.1, u q.2)) w
  stays : ∀ k w, (Instr.keyThatStays (ek k) (ek k)).run P w = .ok (ek k) w

theorem keyT_int {P : Program} {kt : TypeId} {kk : IntKind} (h : P.underlying kt = some (.int kk)) : KeyT P kt (κ := Int) (fun x => .int kk x) where
  check e k w := by
    unfold Instr.checkKey
    simp only [Sem.run_bind, run_underlying' h, Result.andThen_ok]
    rfl
  find u k es L w he := by
    have key : ∀ (es : List MapEntry) L i, es.map (fun e => (e.key, e.val)) = L.map (fun p => (Value.int kk p.1, u p.2)) → Instr.findNow (.int kk) (.int kk k) es i = some ((posM L k i).map fun q => (q.1, u q.2)) := by
      intro es
      induction es with
      | nil => intro L i h; cases L; rfl; cases h
      | cons e es ih =>
        intro L i h
        cases L with
        | nil => cases h
        | cons p L =>
          simp only [List.map_cons, List.cons.injEq, Prod.mk.injEq] at h
          obtain ⟨⟨h1, h2⟩, h3⟩ := h
          simp only [Instr.findNow, h1, Instr.sameNow, if_true, posM]
          by_cases e : p.1 = k
          · subst e; simp [h2]
          · have : (k == p.1) = false := by simpa using fun q => e q.symm
            simp only [this, if_neg e, ih L (i + 1) h3]
    simp only [Instr.findKey, Sem.run_bind, run_underlying' h, Result.andThen_ok, key es L 0 he, Sem.run_pure]
  stays k w := by
    have : Instr.sameBits 10000 (.int kk k) (.int kk k) = true := by
      unfold Instr.sameBits; simp
    unfold Instr.keyThatStays
    rw [this]
    rfl

/-! ### 3. A map's block -/
def MapL {κ ν : Type} (w : World) (m : Nat) (ek : κ → Value) (u : ν → Value) (L : List (κ × ν)) : Prop :=
  (∃ es ck, w.heap[m]? = some (.map es ck) ∧ es.toList.map (fun e => (e.key, e.val)) = L.map (fun p => (ek p.1, u p.2))) ∧ Keys1 L
section
variable {κ ν : Type} {w w' w1 : World} {m : Nat} {ek : κ → Value} {u : ν → Value} {L : List (κ × ν)} {F : Nat → Prop}
theorem MapL.lt (h : MapL w m ek u L) : m < w.heap.size := by obtain ⟨⟨es, ck, h, _⟩, _⟩ := h; exact (Array.getElem?_eq_some_iff.1 h).1
theorem MapL.keys (h : MapL w m ek u L) : Keys1 L := h.2
theorem MapL.step (h : MapL w m ek u L) (hs : Step F w w') (hF : ¬ F m) : MapL w' m ek u L := by
  have hl := h.lt
  obtain ⟨⟨es, ck, h, h2⟩, h3⟩ := h
  exact ⟨⟨es, ck, (hs.block m hl hF).trans h, h2⟩, h3⟩
theorem MapL.no (h : MapL w m ek u L) (hs : Step No w w') : MapL w' m ek u L := h.step hs id
theorem New.map (h : New w w' m (.map #[] 0)) (ek : κ → Value) (u : ν → Value) : MapL w' m ek u [] := ⟨⟨#[], 0, h.get, rfl⟩, List.nodup_nil⟩
theorem set_step {w : World} {m : Nat} {o o' : Obj} (h : w.heap[m]? = some o) : Step (Just m) w { w with heap := w.heap.setIfInBounds m o' } ∧ ({ w with heap := w.heap.setIfInBounds m o' } : World).heap.size = w.heap.size ∧ ({ w with heap := w.heap.setIfInBounds m o' } : World).heap[m]? = some o' := by
  have hlt : m < w.heap.size := (Array.getElem?_eq_some_iff.1 h).1
  refine ⟨⟨rfl, rfl, rfl, by simp, fun k hk hne => ?_⟩, by simp, by simp [hlt]⟩
  have hne : k ≠ m := hne
  simp [Ne.symm hne]
end

section
variable {κ ν : Type} {r : Option Nat} {n : Nat} {ds : List Deferred} {P : Program} {ops : Array Oper} {Q : Exit → Act → World → Prop} {l : List (Nat × Value)} {w : World} {i : Nat} {K : List (Nat × Value) → World → Prop} {ek : κ → Value} {u : ν → Value} {L : List (κ × ν)}
theorem run_getObj' {w : World} {m : Nat} {es : Array MapEntry} {ck : Nat} (h : w.heap[m]? = some (.map es ck)) : (getObj m).run P w = .ok (.map es ck) w := by simp [getObj, Sem.run, h]
/-! ### 3b. Counting -/
end
section
variable {κ ν : Type} [DecidableEq κ] {r : Option Nat} {n : Nat} {ds : List Deferred} {P : Program} {ops : Array Oper} {Q : Exit → Act → World → Prop} {l : List (Nat × Value)} {w : World} {i : Nat} {K : List (Nat × Value) → World → Prop} {ek : κ → Value} {u : ν → Value} {L : List (κ × ν)}
theorem run_setObj' {w : World} {m : Nat} {es : Array MapEntry} {ck : Nat} (o : Obj) (h : w.heap[m]? = some (.map es ck)) : (setObj m o).run P w = .ok () { w with heap := w.heap.setIfInBounds m o } := by simp [setObj, Sem.run, h]

/-! ### 4. Making one -/
def mkMapOp (n : Nat) (ops : Array Oper) (l : List (Nat × Value)) (i : Nat) : Option Nat :=
  match theOp ops l i with
  | some { dst := some d, op := .makeMap _ none, .. } => bif Nat.blt d n then some d else none
  | _ => none
theorem V1_mkMap {d : Nat} (h : mkMapOp n ops l i = some d) (next : ∀ m w1, New w w1 m (.map #[] 0) → K ((d, .map (some m)) :: l) w1) : V1 r n ds P ops Q i l w K := by
  unfold mkMapOp at h
  split at h
  · rename_i _ d' t ty pos aft gd ho
    cases hb : Nat.blt d' n with
    | false => rw [hb] at h; cases h
    | true =>
      rw [hb] at h
      simp only [cond_true, Option.some.injEq] at h
      subst h
      refine V1_value ho rfl hb ?_ (next w.heap.size _ ⟨rfl, rfl⟩)
      simp only [execOp, Instr.makeMap, Option.map_none, newObj, Sem.run_bind, Sem.run, Result.andThen_ok, Sem.run_pure]
      rfl
  · cases h
theorem VL_mkMap {d : Nat} (h : mkMapOp n ops l i = some d) (hi : Nat.blt i ops.size = true) (next : ∀ m w1, New w w1 m (.map #[] 0) → VL r n ds P ops Q (i + 1) ((d, .map (some m)) :: l) w1) : VL r n ds P ops Q i l w := VL_of_V1 hi (V1_mkMap h next)

/-! ### 5. Looking up -/
def lookOp (P : Program) (n : Nat) (ops : Array Oper) (l : List (Nat × Value)) (i : Nat) : Option (Nat × Nat × TypeId × Value × Value × Bool) :=
  match theOp ops l i with
  | some { dst := some d, op := .lookup t x ix ok, .. } => match P.underlying t, evL l x with
    | some (.map kt et), .map (some m) => match (P.info? et).bind (·.zero) with
      | some z => bif Nat.blt d n then some (d, m, kt, z, evL l ix, ok) else none
      | none => none
    | _, _ => none
  | _ => none
theorem V1_lookup {d m : Nat} {kt : TypeId} {z : Value} {k : κ} {ok : Bool} (h : lookOp P n ops l i = some (d, m, kt, z, ek k, ok)) (hk : KeyT P kt ek) (hm : MapL w m ek u L) (v : Value) (hv : ((getM L k).map u).getD z = v) (next : K ((d, if ok then .tuple #[v, .bool (getM L k).isSome] else v) :: l) w) : V1 r n ds P ops Q i l w K := by
  unfold lookOp at h
  split at h
  · rename_i _ d' t x ix ok' ty pos aft gd ho
    split at h
    · rename_i kt' et m' hu hx
      split at h
      · rename_i z' hz
        cases hb : Nat.blt d' n with
        | false => rw [hb] at h; cases h
        | true =>
          rw [hb] at h
          simp only [cond_true, Option.some.injEq, Prod.mk.injEq] at h
          obtain ⟨rfl, rfl, rfl, rfl, hix, rfl⟩ := h
          obtain ⟨inf, hinf, hzz⟩ := Option.bind_eq_some_iff.1 hz
          obtain ⟨⟨es, ck, hes, heq⟩, _⟩ := hm
          have hzv : (zeroValue et).run P w = .ok z' w := by simp [zeroValue, typeInfo, program, Sem.run, hinf, hzz]
          refine V1_value ho rfl hb ?_ next
          have hp := posM_get (L := L) (k := k) 0
          simp only [execOp, Instr.lookup, Sem.run_bind, run_underlying' hu, Result.andThen_ok, hx, run_getObj' hes, Sem.run_pure, hix, hk.check, hk.find u k es.toList L w heq]
          cases hq : posM L k 0 with
          | none =>
            rw [hq] at hp
            rw [← hp] at hv
            simp only [Option.map_none, Option.getD_none] at hv
            simp only [Option.map_none, Sem.run_bind, hzv, Result.andThen_ok, Sem.run_pure, ← hp, hv, Option.isSome_none]
          | some q =>
            rw [hq] at hp
            rw [← hp] at hv
            simp only [Option.map_some, Option.getD_some] at hv
            simp only [Option.map_some, Sem.run_bind, Result.andThen_ok, Sem.run_pure, ← hp, hv, Option.isSome_some]
      · cases h
    · cases h
  · cases h
theorem VL_lookup {d m : Nat} {kt : TypeId} {z : Value} {k : κ} {ok : Bool} (h : lookOp P n ops l i = some (d, m, kt, z, ek k, ok)) (hi : Nat.blt i ops.size = true) (hk : KeyT P kt ek) (hm : MapL w m ek u L) (v : Value) (hv : ((getM L k).map u).getD z = v) (next : VL r n ds P ops Q (i + 1) ((d, if ok then .tuple #[v, .bool (getM L k).isSome] else v) :: l) w) : VL r n ds P ops Q i l w := VL_of_V1 hi (V1_lookup h hk hm v hv next)

/-! ### 6. Putting -/
structure WrM (w w' : World) (m : Nat) (ek : κ → Value) (u : ν → Value) (L : List (κ × ν)) : Prop where
  map : MapL w' m ek u L
  same : w'.heap.size = w.heap.size
  step : Step (Just m) w w'
def updOp (P : Program) (ops : Array Oper) (l : List (Nat × Value)) (i : Nat) : Option (Nat × TypeId × Value × Value) :=
  match theOp ops l i with
  | some { dst := none, op := .mapUpdate t x k y, .. } => match P.underlying t, evL l x with
    | some (.map kt _), .map (some m) => some (m, kt, evL l k, evL l y)
    | _, _ => none
  | _ => none
theorem run_upd {m : Nat} {t kt et : TypeId} {k : κ} {v : ν} (ht : P.underlying t = some (.map kt et)) (hk : KeyT P kt ek) (hm : MapL w m ek u L) : ∃ w1, (Instr.mapUpdate t (.map (some m)) (ek k) (u v)).run P w = .ok () w1 ∧ WrM w w1 m ek u (putM L k v) := by
  have hmm := hm
  obtain ⟨⟨es, ck, hes, heq⟩, hnd⟩ := hm
  have hf := hk.find u k es.toList L w heq
  cases hq : posM L k 0 with
  | none =>
    rw [hq] at hf
    obtain ⟨s1, s2, s3⟩ := set_step (o' := .map (es.push { key := ek k, val := u v, born := ck }) (ck + 1)) hes
    refine ⟨_, ?_, ?_, s2, s1⟩
    · simp only [Instr.mapUpdate, Sem.run_bind, run_underlying' ht, Result.andThen_ok, run_getObj' hes, hk.check, hf, Option.map_none, run_setObj' _ hes]
    · refine ⟨⟨_, _, s3, ?_⟩, hnd.put k v⟩
      rw [posM_none hq]
      simp [heq]
  | some q =>
    obtain ⟨j, y⟩ := q
    rw [hq] at hf
    obtain ⟨q, h1, h2, h3, _⟩ := posM_some hq
    have hj : j = q := by omega
    subst hj
    have hlen : es.toList.length = L.length := by have := congrArg List.length heq; simpa using this
    have hlt : j < L.length := (List.getElem?_eq_some_iff.1 h2).1
    have hsz : es.size = L.length := by simpa using hlen
    obtain ⟨ej, hej⟩ : ∃ x, es[j]? = some x := ⟨_, Array.getElem?_eq_getElem (by omega)⟩
    have hkey : ej.key = ek k := by
      have h9 := congrArg (fun z => z[j]?) heq
      simp only [List.getElem?_map, h2, Option.map_some, Array.getElem?_toList, hej, Option.some.injEq, Prod.mk.injEq] at h9
      exact h9.1
    obtain ⟨s1, s2, s3⟩ := set_step (o' := .map (es.modify j fun e => { e with key := ek k, val := u v }) ck) hes
    refine ⟨_, ?_, ?_, s2, s1⟩
    · simp only [Instr.mapUpdate, Sem.run_bind, run_underlying' ht, Result.andThen_ok, run_getObj' hes, hk.check, hf, Option.map_some, hej, Option.getD_some, hkey, hk.stays, run_setObj' _ hes]
    · refine ⟨⟨_, _, s3, ?_⟩, hnd.put k v⟩
      rw [h3]
      apply List.ext_getElem?
      intro a
      have h9 := congrArg (fun z => z[a]?) heq
      simp only [List.getElem?_map, Array.getElem?_toList] at h9
      simp only [List.getElem?_map, Array.getElem?_toList, Array.getElem?_modify, List.getElem?_set]
      by_cases e : j = a
      · subst e
        rw [if_pos rfl, if_pos rfl, if_pos hlt, hej]; rfl
      · rw [if_neg e, if_neg e]; exact h9
theorem V1_upd {m : Nat} {kt : TypeId} {k : κ} {v : ν} (h : updOp P ops l i = some (m, kt, ek k, u v)) (hk : KeyT P kt ek) (hm : MapL w m ek u L) (next : ∀ w1, WrM w w1 m ek u (putM L k v) → K l w1) : V1 r n ds P ops Q i l w K := by
  unfold updOp at h
  split at h
  · rename_i _ t x kx y ty pos aft gd ho
    split at h
    · rename_i kt' et m' hu hx
      simp only [Option.some.injEq, Prod.mk.injEq] at h
      obtain ⟨rfl, rfl, h1, h2⟩ := h
      obtain ⟨w1, hr, hw⟩ := run_upd (v := v) (k := k) hu hk hm
      refine V1_skip ho rfl ?_ (next w1 hw)
      simp only [execOp, hx, h1, h2, Sem.run_bind, hr, Result.andThen_ok, Sem.run_pure]
    · cases h
  · cases h
theorem VL_upd {m : Nat} {kt : TypeId} {k : κ} {v : ν} (h : updOp P ops l i = some (m, kt, ek k, u v)) (hi : Nat.blt i ops.size = true) (hk : KeyT P kt ek) (hm : MapL w m ek u L) (next : ∀ w1, WrM w w1 m ek u (putM L k v) → VL r n ds P ops Q (i + 1) l w1) : VL r n ds P ops Q i l w := VL_of_V1 hi (V1_upd h hk hm next)

/-! ### 7. Deleting -/
theorem map_eraseIdx' {α β : Type} (f : α → β) : ∀ (l : List α) (j : Nat), (l.eraseIdx j).map f = (l.map f).eraseIdx j
  | [], _ => rfl
  | _ :: _, 0 => rfl
  | a :: l, j + 1 => by simp only [List.eraseIdx_cons_succ, List.map_cons, map_eraseIdx' f l j]
theorem V1_value0 {o : Oper} {v : Value} {w1 : World} (ho : theOp ops l i = some o) (hd : o.dst = none) (hrun : (execOp (evL l) o).run P w = .ok (.value v) w1) (h : K l w1) : V1 r n ds P ops Q i l w K := by
  obtain ⟨h1, h2, h3⟩ := theOp_spec ho
  refine V1_run h1 h2 h3 fun a ha => ?_
  rw [hrun]
  exact ⟨_, by rw [hd]; exact ha, h⟩
def delOp (P : Program) (ops : Array Oper) (l : List (Nat × Value)) (i : Nat) : Option (Nat × TypeId × Value) :=
  match theOp ops l i with
  | some { dst := none, op := .call { callee := .builtin .delete, args := ags, argTypes := ts }, .. } =>
    match ((ts[0]?).bind P.underlying : Option TypeDesc), ((ags.map (evL l))[0]? : Option Value), ((ags.map (evL l))[1]? : Option Value) with
    | some (TypeDesc.map kt _), some (Value.map (some m)), some k => some (m, kt, k)
    | _, _, _ => none
  | _ => none
theorem V1_del {m : Nat} {kt : TypeId} {k : κ} (h : delOp P ops l i = some (m, kt, ek k)) (hk : KeyT P kt ek) (hm : MapL w m ek u L) (next : ∀ w1, WrM w w1 m ek u (delM L k) → K l w1) : V1 r n ds P ops Q i l w K := by
  unfold delOp at h
  split at h
  · rename_i _ ags ts ty pos aft gd ho
    split at h
    · rename_i kt' et m' k' hu hx hy
      simp only [Option.some.injEq, Prod.mk.injEq] at h
      obtain ⟨rfl, rfl, rfl⟩ := h
      obtain ⟨t, ht, hu'⟩ := Option.bind_eq_some_iff.1 hu
      obtain ⟨⟨es, ck, hes, heq⟩, hnd⟩ := hm
      have hf := hk.find u k es.toList L w heq
      cases hq : posM L k 0 with
      | none =>
        rw [hq] at hf
        obtain ⟨s1, s2, s3⟩ := set_step (o' := .map es ck) hes
        refine V1_value0 (v := .tuple #[]) ho rfl ?_ (next _ ⟨⟨⟨_, _, s3, ?_⟩, hnd.del k⟩, s2, s1⟩)
        · simp only [execOp, resolve, invoke, builtin, Builtin.delete_, Sem.run_bind, Sem.run_pure, Result.andThen_ok, hx, hy, ht, run_underlying' hu', run_getObj' hes, hk.check, hf, Option.map_none, run_setObj' _ hes]
        · rw [posM_none_del hq]; exact heq
      | some q =>
        obtain ⟨j, y⟩ := q
        rw [hq] at hf
        obtain ⟨q, h1, h2, _, h4⟩ := posM_some hq
        have hj : j = q := by omega
        subst hj
        obtain ⟨s1, s2, s3⟩ := set_step (o' := .map (es.eraseIdxIfInBounds j) ck) hes
        refine V1_value0 (v := .tuple #[]) ho rfl ?_ (next _ ⟨⟨⟨_, _, s3, ?_⟩, hnd.del k⟩, s2, s1⟩)
        · simp only [execOp, resolve, invoke, builtin, Builtin.delete_, Sem.run_bind, Sem.run_pure, Result.andThen_ok, hx, hy, ht, run_underlying' hu', run_getObj' hes, hk.check, hf, Option.map_some, run_setObj' _ hes]
        · rw [h4, Array.toList_eraseIdxIfInBounds, map_eraseIdx', heq, map_eraseIdx']
    · cases h
  · cases h
theorem VL_del {m : Nat} {kt : TypeId} {k : κ} (h : delOp P ops l i = some (m, kt, ek k)) (hi : Nat.blt i ops.size = true) (hk : KeyT P kt ek) (hm : MapL w m ek u L) (next : ∀ w1, WrM w w1 m ek u (delM L k) → VL r n ds P ops Q (i + 1) l w1) : VL r n ds P ops Q i l w := VL_of_V1 hi (V1_del h hk hm next)

/-! ### 9. In regions that are walked in one order -/
variable {tbl : List (List Nat)} {mm : Nat} {R : World → World → Prop} {ch : List Nat}
end
end Go.Vc
end

section
/- The calculus: quotients by a variable, calls of a method of an interface's value, calls that leave the world as it is. -/
set_option linter.unusedVariables false
set_option linter.unusedSimpArgs false
namespace Go.Vc
open Go.RowKit
section
variable {r : Option Nat} {n : Nat} {ds : List Deferred} {P : Program} {ops : Array Oper} {Q : Exit → Act → World → Prop} {l : List (Nat × Value)} {w : World} {i : Nat} {K : List (Nat × Value) → World → Prop}
def quoOp (n : Nat) (ops : Array Oper) (l : List (Nat × Value)) (i : Nat) : Option (Nat × IntKind × Int × Int) :=
  match theOp ops l i with
  | some { dst := some d, op := .binOp .quo _ x y _, .. } => match evL l x, evL l y with
    | .int k a, .int k' b => if k = k' then bif Nat.blt d n then some (d, k, a, b) else none else none
    | _, _ => none
  | _ => none
theorem V1_quo {d : Nat} {k : IntKind} {x y : Int} (h : quoOp n ops l i = some (d, k, x, y)) (hy : y ≠ 0) (next : K ((d, .int k (k.wrap (x.tdiv y))) :: l) w) : V1 r n ds P ops Q i l w K := by
  unfold quoOp at h
  split at h
  · rename_i _ d' t a b u ty pos aft gd ho
    split at h
    · rename_i k' xa yk yb hx hyv
      split at h
      · rename_i hk
        subst hk
        cases hb : Nat.blt d' n with
        | false => rw [hb] at h; cases h
        | true =>
          rw [hb] at h
          simp only [cond_true, Option.some.injEq, Prod.mk.injEq] at h
          obtain ⟨rfl, rfl, rfl, rfl⟩ := h
          refine V1_value ho rfl hb ?_ next
          simp [execOp, eqGuard, binOp, Op.intDiv, hx, hyv, Sem.run_bind, hy]
      · cases h
    · cases h
  · cases h
theorem VL_quo {d : Nat} {k : IntKind} {x y : Int} (h : quoOp n ops l i = some (d, k, x, y)) (hi : Nat.blt i ops.size = true) (hy : y ≠ 0) (next : VL r n ds P ops Q (i + 1) ((d, .int k (k.wrap (x.tdiv y))) :: l) w) : VL r n ds P ops Q i l w :=
  VL_of_V1 hi (V1_quo h hy next)
def invOp (P : Program) (n : Nat) (ops : Array Oper) (l : List (Nat × Value)) (i : Nat) : Option (Nat × FuncId × Array Value) :=
  match theOp ops l i with
  | some { dst := some d, op := .call { callee := .invoke rv name, args := ags, .. }, .. } => match evL l rv with
    | .iface t v => match pureVal P (method (P.types.size + Made.depth) t v name) with
      | some (f, x) => bif Nat.blt d n then some (d, f, #[x] ++ ags.map (evL l)) else none
      | none => none
    | _ => none
  | _ => none
theorem V1_invoke {d f : Nat} {args : Array Value} {S : Value → World → Prop} (h : invOp P n ops l i = some (d, f, args))
    (hc : ∀ (args : Array Value) (w : World), (callFunc f args).run P w = .ok (.enter f args) w) (hcall : CV P f args w S) (next : ∀ v w', S v w' → K ((d, v) :: l) w') :
    V1 r n ds P ops Q i l w K := by
  unfold invOp at h
  split at h
  · rename_i _ d' rv name ags ts ty pos aft gd ho
    split at h
    · rename_i t v hrv
      split at h
      · rename_i f' x hm
        cases hb : Nat.blt d' n with
        | false => rw [hb] at h; cases h
        | true =>
          rw [hb] at h
          simp only [cond_true, Option.some.injEq, Prod.mk.injEq] at h
          obtain ⟨rfl, rfl, hargs⟩ := h
          obtain ⟨h1, h2, h3⟩ := theOp_spec ho
          refine V1_run h1 h2 h3 fun a ha => ?_
          have hrun : (execOp (evL l) { dst := some d', op := .call { callee := .invoke rv name, args := ags, argTypes := ts }, type := ty, pos := pos, after := aft, guard := gd }).run P w = .ok (.enter f' args) w := by
            have hme := pureVal_run hm w
            have he : (#[Value.iface t v] ++ Array.map (evL l) ags).extract 1 (#[Value.iface t v] ++ Array.map (evL l) ags).size = Array.map (evL l) ags := by
              apply Array.toList_inj.1
              simp only [Array.toList_extract, Array.toList_append, List.cons_append, List.nil_append, Array.size_append, Array.toList_map, Array.size_map]
              simp [List.extract_eq_take_drop, List.take_of_length_le]
            simp only [execOp, resolve, hrv, Sem.run_bind, Sem.run_pure, Result.andThen_ok, invoke]
            have h0 : (#[Value.iface t v] ++ Array.map (evL l) ags)[0]? = some (Value.iface t v) := by rw [Array.getElem?_append_left (by simp)]; rfl
            simp only [h0, he, callMethod, Sem.run_bind]
            have hpr : Sem.run P program w = .ok P w := rfl
            simp only [hpr, Result.andThen_ok, hme]
            rw [hc, hargs]
          rw [hrun]
          refine ⟨(fun hd => by cases hd), callsIn_Fx ?_⟩
          refine Calls.mono hcall ?_
          rintro e w' ⟨v', rfl, hS⟩
          exact ⟨_, ha.put _ (blt_spec hb) _, next v' w' hS⟩
      · cases h
    · cases h
  · cases h
theorem VL_invoke {d f : Nat} {args : Array Value} {S : Value → World → Prop} (h : invOp P n ops l i = some (d, f, args)) (hi : Nat.blt i ops.size = true)
    (hc : ∀ (args : Array Value) (w : World), (callFunc f args).run P w = .ok (.enter f args) w) (hcall : CV P f args w S) (next : ∀ v w', S v w' → VL r n ds P ops Q (i + 1) ((d, v) :: l) w') :
    VL r n ds P ops Q i l w := VL_of_V1 hi (V1_invoke h hc hcall next)
end
/-- A call that leaves the world as it is. -/
def CE (P : Program) (f : FuncId) (args : Array Value) (v : Value) : Prop := ∀ w, CV P f args w fun x w1 => x = v ∧ w1 = w
theorem CE.no {P : Program} {f : FuncId} {args : Array Value} {v : Value} (h : CE P f args v) (w : World) : CV P f args w fun x w1 => x = v ∧ Step No w w1 := (h w).mono fun x w1 hx => ⟨hx.1, hx.2 ▸ Step.refl _ _⟩
theorem CE.val {P : Program} {f : FuncId} {args : Array Value} {v v' : Value} (h : CE P f args v) (hv : v = v') : CE P f args v' := hv ▸ h
end Go.Vc
end

section
/- Layer 20, plain: contracts, what they cost, buckets, policers' rules. -/
set_option linter.unusedVariables false
set_option linter.unusedSimpArgs false
namespace Go.Proofs.Ythchmlidobgkoaa
open Go.Vc Go.RowKit

/-! ### Contracts -/
structure Con where
  kind : Int
  peak : Int
  early : Int
  whole : Int
  burst : Int
  least : Int
def Con.cells (c : Con) : List Value := [.int .i64 c.kind, .int .i64 c.peak, .int .i64 c.early, .int .i64 c.whole, .int .i64 c.burst, .int .i64 c.least]
def spanB (n least : Int) : Bool := decide (n ≥ least) && decide (n ≤ 1099511627776)
def fineC (c : Con) : Bool := (spanB c.peak 1 && spanB c.early 0) &&
  (if c.kind = 2 ∨ c.kind = 3 ∨ c.kind = 4 then spanB c.whole c.peak && spanB c.burst 0 && (c.least == 0)
   else if c.kind = 5 then (c.whole == 0) && (c.burst == 0) && ((c.least == 0) || spanB c.least c.peak)
   else (c.whole == 0) && (c.burst == 0) && (c.least == 0))
def rightC (c : Con) : Int := if 1 ≤ c.kind ∧ c.kind ≤ 7 then (if fineC c = true then 0 else 11) else 12
def perC (s : Int) : Int := if s < 1 then 0 else 1 + 1048575 / s
def upC (n b : Int) : Int := (n + b - 1) / b
def needC (c : Con) : Int := if rightC c = 0 then
    (if c.kind = 1 then perC c.peak else if c.kind = 5 then perC c.least
     else if c.kind = 2 ∨ c.kind = 3 ∨ c.kind = 4 then upC (perC c.whole * 4096 + perC c.peak * c.burst) (c.burst + 4096) else 0) else 0
theorem perC_le (s : Int) : 0 ≤ perC s ∧ perC s ≤ 1048576 := by
  unfold perC
  split
  · omega
  · rename_i h
    have h1 : 0 ≤ (1048575 : Int) / s := Int.ediv_nonneg (by decide) (by omega)
    have h2 : (1048575 : Int) / s ≤ 1048575 := Int.ediv_le_self _ (by decide)
    omega
theorem spanB_iff {n a : Int} : spanB n a = true ↔ a ≤ n ∧ n ≤ 1099511627776 := by
  unfold spanB; rw [Bool.and_eq_true, decide_eq_true_eq, decide_eq_true_eq]
theorem mul_le_of {a b A B : Int} (h0 : 0 ≤ a) (h1 : a ≤ A) (h2 : 0 ≤ b) (h3 : b ≤ B) : 0 ≤ a * b ∧ a * b ≤ A * B :=
  ⟨Int.mul_nonneg h0 h2, Int.mul_le_mul h1 h3 h2 (by omega)⟩
theorem vbr_of {c : Con} (h : rightC c = 0) (hk : c.kind = 2 ∨ c.kind = 3 ∨ c.kind = 4) : (1 ≤ c.peak ∧ c.peak ≤ 1099511627776) ∧ (c.peak ≤ c.whole ∧ c.whole ≤ 1099511627776) ∧ (0 ≤ c.burst ∧ c.burst ≤ 1099511627776) ∧ (0 ≤ c.early ∧ c.early ≤ 1099511627776) := by
  unfold rightC at h
  split at h
  · split at h
    · rename_i h2
      unfold fineC at h2
      rw [if_pos hk] at h2
      simp only [Bool.and_eq_true, spanB_iff] at h2
      obtain ⟨⟨h3, h4⟩, ⟨h5, h6⟩, h7⟩ := h2
      exact ⟨h3, h5, h6, h4⟩
    · cases h
  · cases h
/-- What stands in a contract's quotient is small. -/
theorem vbr_num {c : Con} (h : rightC c = 0) (hk : c.kind = 2 ∨ c.kind = 3 ∨ c.kind = 4) :
    (0 ≤ perC c.whole * 4096 ∧ perC c.whole * 4096 ≤ 4294967296) ∧ (0 ≤ perC c.peak * c.burst ∧ perC c.peak * c.burst ≤ 1152921504606846976) ∧ 0 ≤ c.burst ∧ c.burst ≤ 1099511627776 := by
  obtain ⟨h1, h2, h3, h4⟩ := vbr_of h hk
  have a1 := perC_le c.whole
  have a2 := perC_le c.peak
  exact ⟨by omega, mul_le_of a2.1 a2.2 h3.1 h3.2, h3⟩
theorem up_le {n b : Int} (hn : 0 ≤ n) (hb : 1 ≤ b) : 0 ≤ upC n b ∧ upC n b ≤ n + b := by
  unfold upC
  exact ⟨Int.ediv_nonneg (by omega) (by omega), by have := Int.ediv_le_self b (a := n + b - 1) (by omega); omega⟩
theorem needC_le (c : Con) : 0 ≤ needC c ∧ needC c ≤ 1152930000000000000 := by
  unfold needC
  split
  · rename_i hr
    split
    · have := perC_le c.peak; omega
    · split
      · have := perC_le c.least; omega
      · split
        · rename_i hk
          obtain ⟨h1, h2, h3⟩ := vbr_num hr hk
          have := up_le (n := perC c.whole * 4096 + perC c.peak * c.burst) (b := c.burst + 4096) (by omega) (by omega)
          omega
        · omega
  · omega

theorem rightE {c : Con} (h1 : 1 ≤ c.kind) (h2 : c.kind ≤ 7) : fineC c = (rightC c == 0) := by
  unfold rightC; rw [if_pos ⟨h1, h2⟩]; cases fineC c <;> rfl
theorem right_vbr {c : Con} (hk : c.kind = 2 ∨ c.kind = 3 ∨ c.kind = 4) : (((((spanB c.peak 1) && (spanB c.early 0)) && (spanB c.whole c.peak)) && (spanB c.burst 0)) && (c.least == 0)) = (rightC c == 0) := by
  rw [← rightE (by omega) (by omega)]; unfold fineC; rw [if_pos hk]; simp only [Bool.and_assoc]
theorem right_abr {c : Con} (hk : c.kind = 5) : (((((spanB c.peak 1) && (spanB c.early 0)) && (c.whole == 0)) && (c.burst == 0)) && ((c.least == 0) || (spanB c.least c.peak))) = (rightC c == 0) := by
  rw [← rightE (by omega) (by omega)]; unfold fineC; rw [if_neg (by omega), if_pos hk]; simp only [Bool.and_assoc]
theorem right_cbr {c : Con} (hk : c.kind = 1 ∨ c.kind = 6 ∨ c.kind = 7) : (((((spanB c.peak 1) && (spanB c.early 0)) && (c.whole == 0)) && (c.burst == 0)) && (c.least == 0)) = (rightC c == 0) := by
  rw [← rightE (by omega) (by omega)]; unfold fineC; rw [if_neg (by omega), if_neg (by omega)]; simp only [Bool.and_assoc]
theorem right11 {c : Con} (h1 : 1 ≤ c.kind) (h2 : c.kind ≤ 7) (h : ¬ rightC c = 0) : 11 = rightC c := by
  unfold rightC at h ⊢; rw [if_pos ⟨h1, h2⟩] at h ⊢; split
  · rename_i h3; rw [if_pos h3] at h; exact absurd rfl h
  · rfl
theorem right12 {c : Con} (h : ¬ (1 ≤ c.kind ∧ c.kind ≤ 7)) : 12 = rightC c := by unfold rightC; rw [if_neg h]
def alwaysC (c : Con) : Bool := decide (c.kind = 7) && (rightC c == 0)
theorem always_no {c : Con} (h : ¬ c.kind = 7) : false = alwaysC c := by unfold alwaysC; rw [decide_eq_false h]; rfl
theorem always_yes {c : Con} (h : c.kind = 7) : (rightC c == 0) = alwaysC c := by unfold alwaysC; rw [decide_eq_true h]; rfl
theorem need_no {c : Con} (h : ¬ rightC c = 0) : 0 = needC c := by unfold needC; rw [if_neg h]
theorem need_cbr {c : Con} (h : rightC c = 0) (hk : c.kind = 1) : perC c.peak = needC c := by unfold needC; rw [if_pos h, if_pos hk]
theorem need_abr {c : Con} (h : rightC c = 0) (hk : c.kind = 5) : perC c.least = needC c := by unfold needC; rw [if_pos h, if_neg (by omega), if_pos hk]
theorem need_vbr {c : Con} (h : rightC c = 0) (hk : c.kind = 2 ∨ c.kind = 3 ∨ c.kind = 4) : upC (perC c.whole * 4096 + perC c.peak * c.burst) (c.burst + 4096) = needC c := by unfold needC; rw [if_pos h, if_neg (by omega), if_neg (by omega), if_pos hk]
theorem need_ubr {c : Con} (h : rightC c = 0) (h1 : ¬ c.kind = 1) (h2 : ¬ c.kind = 2) (h3 : ¬ c.kind = 3) (h4 : ¬ c.kind = 4) (h5 : ¬ c.kind = 5) : 0 = needC c := by unfold needC; rw [if_pos h, if_neg (by omega), if_neg (by omega), if_neg (by omega)]

/-! ### Buckets -/
structure Bk where
  step : Int
  early : Int
  next : Int
  any : Bool
def Bk.cells (b : Bk) : List Value := [.int .i64 b.step, .int .i64 b.early, .int .i64 b.next, .bool b.any]
def clT (t : Int) : Int := imax 0 (imin t 1152921504606846976)
theorem clT_le (t : Int) : 0 ≤ clT t ∧ clT t ≤ 1152921504606846976 := by unfold clT imax imin; split <;> split <;> omega
def bkNew (s e : Int) : Bk := ⟨imax 1 (imin s 1152921504606846976), imax 0 (imin e 1152921504606846976), 0, false⟩
structure BkOk (b : Bk) : Prop where
  step : 1 ≤ b.step ∧ b.step ≤ 1152921504606846976
  early : 0 ≤ b.early ∧ b.early ≤ 1152921504606846976
  next : 0 ≤ b.next ∧ b.next ≤ 3458764513820540928
theorem BkOk.new (s e : Int) : BkOk (bkNew s e) := by
  constructor <;> (unfold bkNew; simp only; (try unfold imax imin); first | omega | (split <;> split <;> omega))
def fitsB (b : Bk) (t : Int) : Bool := !b.any || decide (clT t ≥ b.next - b.early)
theorem fits_no {b : Bk} {t : Int} (h : b.any = false) : true = fitsB b t := by unfold fitsB; rw [h]; rfl
def takeB (b : Bk) (t : Int) : Bk := if fitsB b t = true then ⟨b.step, b.early, imax b.next (clT t) + b.step, true⟩ else b
theorem fits_yes {b : Bk} {t : Int} (hb : BkOk b) (h : b.any = true) : decide (imax 0 (imin t 1152921504606846976) ≥ IntKind.wrap .i64 (b.next - b.early)) = fitsB b t := by
  have h1 := hb.early
  have h2 := hb.next
  unfold fitsB clT; rw [h, wrap_i64 (b.next - b.early) (by omega) (by omega)]; rfl
theorem fits_next {b : Bk} {t : Int} (h : BkOk b) (hf : fitsB b t = true) (ha : b.any = true) : b.next ≤ clT t + b.early := by
  unfold fitsB at hf
  rw [ha] at hf
  simp only [Bool.not_true, Bool.false_or, decide_eq_true_eq] at hf
  omega
/-- Untaken, it has no next time. -/
structure BkI (b : Bk) : Prop extends BkOk b where
  zero : b.any = false → b.next = 0
theorem BkI.new (s e : Int) : BkI (bkNew s e) := { BkOk.new s e with zero := fun _ => rfl }
theorem BkI.max_le {b : Bk} {t : Int} (h : BkI b) (hf : fitsB b t = true) : 0 ≤ imax b.next (clT t) ∧ imax b.next (clT t) ≤ 2305843009213693952 := by
  have h1 := clT_le t
  have h2 := h.early
  have h3 := h.next
  cases ha : b.any with
  | false =>
    have := h.zero ha
    unfold imax; split <;> omega
  | true =>
    have := fits_next h.toBkOk hf ha
    unfold imax; split <;> omega
theorem BkI.take {b : Bk} (h : BkI b) (t : Int) : BkI (takeB b t) := by
  unfold takeB
  split
  · rename_i hf
    have h1 := h.max_le hf
    have h2 := h.step
    exact { step := h2, early := h.early, next := ⟨by simp only; omega, by simp only; omega⟩, zero := fun h => by cases h }
  · exact h

/-! ### Rules -/
structure Rl where
  step : Int
  early : Int
  zero : Bool
  tag : Bool
  b : Bk
def rlNew (s e : Int) (z t : Bool) : Rl := ⟨s, e, z, t, bkNew s e⟩
def rulesC (c : Con) : List Rl := if rightC c = 0 then
    (if c.kind = 2 then [rlNew c.peak c.early false false, rlNew c.whole (c.burst + c.early) false false]
     else if c.kind = 3 then [rlNew c.peak c.early false false, rlNew c.whole (c.burst + c.early) true false]
     else if c.kind = 4 then [rlNew c.peak c.early false false, rlNew c.whole (c.burst + c.early) true true]
     else [rlNew c.peak c.early false false]) else []
def askB (clp : Int) (r : Rl) : Bool := !r.zero || (clp == 0)
def vS (t : Int) (v : Int) (r : Rl) : Int := if v = 3 then 3 else if fitsB r.b t = true then v else if r.tag = true then 2 else 3
def verdR (t clp : Int) (l : List Rl) : Int := (l.filter (askB clp)).foldl (vS t) 1
def takeR (t : Int) (r : Rl) : Rl := { r with b := takeB r.b t }
/-- The verdict, and the rules behind it. -/
def asV (v clp : Int) : Int := if v = 2 then 1 else clp
def rulesT (t clp : Int) (l : List Rl) : List Rl := if verdR t clp l = 3 then l else l.map fun r => if askB (asV (verdR t clp l) clp) r = true then takeR t r else r
def polV (always : Bool) (t clp : Int) (l : List Rl) : Int := if verdR t clp l = 1 ∧ always = true ∧ clp = 0 then 2 else verdR t clp l
theorem vS_cases (t v : Int) (r : Rl) (h : v = 1 ∨ v = 2 ∨ v = 3) : vS t v r = 1 ∨ vS t v r = 2 ∨ vS t v r = 3 := by
  unfold vS; split
  · simp
  · split
    · exact h
    · split <;> simp
theorem fold_cases (t : Int) : ∀ (l : List Rl) (v : Int), v = 1 ∨ v = 2 ∨ v = 3 → l.foldl (vS t) v = 1 ∨ l.foldl (vS t) v = 2 ∨ l.foldl (vS t) v = 3
  | [], v, h => h
  | r :: l, v, h => fold_cases t l _ (vS_cases t v r h)
theorem verdR_cases (t clp : Int) (l : List Rl) : verdR t clp l = 1 ∨ verdR t clp l = 2 ∨ verdR t clp l = 3 := fold_cases t _ 1 (.inl rfl)
theorem fold_three (t : Int) : ∀ (l : List Rl), l.foldl (vS t) 3 = 3
  | [] => rfl
  | r :: l => by rw [List.foldl_cons, show vS t 3 r = 3 from by unfold vS; simp]; exact fold_three t l
def RlsI (l : List Rl) : Prop := l.length ≤ 2 ∧ ∀ r ∈ l, BkI r.b
theorem RlsI.rules (c : Con) : RlsI (rulesC c) := by
  have hn : ∀ s e z t, BkI (rlNew s e z t).b := fun s e z t => BkI.new s e
  unfold rulesC
  (repeat' split) <;> refine ⟨by simp, fun r hr => ?_⟩ <;> simp only [List.mem_cons, List.not_mem_nil, or_false] at hr
  all_goals first | (rcases hr with rfl | rfl <;> exact hn _ _ _ _) | (subst hr; exact hn _ _ _ _)
theorem RlsI.take {l : List Rl} (h : RlsI l) (t clp : Int) : RlsI (rulesT t clp l) := by
  unfold rulesT
  split
  · exact h
  · refine ⟨by simpa using h.1, fun r hr => ?_⟩
    obtain ⟨x, hx, rfl⟩ := List.mem_map.1 hr
    have := h.2 x hx
    split
    · exact this.take t
    · exact this
end Go.Proofs.Ythchmlidobgkoaa
end

section
/- Layer 20, plain: a node's connections as a list; what is done with it. -/
set_option linter.unusedVariables false
set_option linter.unusedSimpArgs false
namespace Go.Proofs.Ythchmlidobgkoaa
open Go.Vc Go.RowKit

structure Cx where
  p : Int
  v : Int
  c : Int
  k : Con
  rs : List Rl
def Cx.e0 (x : Cx) : Ent := ⟨x.p, x.v, x.c, 0⟩
def keyX (p v c : Int) (x : Cx) : Bool := decide (x.p = p ∧ x.v = v ∧ x.c = c)
theorem keyX_iff {p v c : Int} {x : Cx} : keyX p v c x = true ↔ x.p = p ∧ x.v = v ∧ x.c = c := by unfold keyX; rw [decide_eq_true_eq]
def findC (L : List Cx) (p v c : Int) : Option Cx := L.find? (keyX p v c)
def delC (L : List Cx) (p v c : Int) : List Cx := L.filter fun x => !keyX p v c x
def aheadC (L : List Cx) (p v c : Int) : Nat := aheadE (L.map Cx.e0) p v c
def insC (L : List Cx) (x : Cx) : List Cx := L.take (aheadC L x.p x.v x.c) ++ x :: L.drop (aheadC L x.p x.v x.c)
def newK (k : Con) (x : Cx) : Cx := { x with k := k, rs := rulesC k }
def newR (t clp : Int) (x : Cx) : Cx := { x with rs := rulesT t clp x.rs }
def setC (L : List Cx) (p v c : Int) (f : Cx → Cx) : List Cx := L.map fun x => if keyX p v c x = true then f x else x
def usdL : List Cx → Int → Int
  | [], _ => 0
  | x :: L, i => (if x.p = i then needC x.k else 0) + usdL L i
theorem usdL_append (L M : List Cx) (i : Int) : usdL (L ++ M) i = usdL L i + usdL M i := by
  induction L with
  | nil => simp [usdL]
  | cons x L ih => simp only [List.cons_append, usdL, ih]; omega
theorem usdL_nonneg (L : List Cx) (i : Int) : 0 ≤ usdL L i := by
  induction L with
  | nil => simp [usdL]
  | cons x L ih =>
    simp only [usdL]
    have := (needC_le x.k).1
    split <;> omega
theorem usdL_ins (L : List Cx) (x : Cx) (i : Int) : usdL (insC L x) i = usdL L i + (if x.p = i then needC x.k else 0) := by
  unfold insC
  rw [usdL_append, usdL]
  have := usdL_append (L.take (aheadC L x.p x.v x.c)) (L.drop (aheadC L x.p x.v x.c)) i
  rw [List.take_append_drop] at this
  omega
theorem usdL_mem {L : List Cx} {x : Cx} (h : x ∈ L) : needC x.k ≤ usdL L x.p := by
  induction L with
  | nil => cases h
  | cons y L ih =>
    simp only [usdL]
    rcases List.mem_cons.1 h with rfl | h
    · rw [if_pos rfl]; have := usdL_nonneg L x.p; omega
    · have := ih h
      have := (needC_le y.k).1
      split <;> omega
/-- Each key once. -/
def OneK (L : List Cx) : Prop := L.Pairwise fun x y => ¬ (x.p = y.p ∧ x.v = y.v ∧ x.c = y.c)
theorem OneK.inj {L : List Cx} (h : OneK L) {x y : Cx} (hx : x ∈ L) (hy : y ∈ L) (he : x.p = y.p ∧ x.v = y.v ∧ x.c = y.c) : x = y := by
  induction L with
  | nil => cases hx
  | cons z L ih =>
    obtain ⟨h1, h2⟩ := List.pairwise_cons.1 h
    rcases List.mem_cons.1 hx with ex | mx
    · rcases List.mem_cons.1 hy with ey | my
      · rw [ex, ey]
      · subst ex; exact absurd he (h1 y my)
    · rcases List.mem_cons.1 hy with ey | my
      · subst ey; exact absurd ⟨he.1.symm, he.2.1.symm, he.2.2.symm⟩ (h1 x mx)
      · exact ih h2 mx my
theorem findC_some {L : List Cx} {p v c : Int} {x : Cx} (h : findC L p v c = some x) : x ∈ L ∧ x.p = p ∧ x.v = v ∧ x.c = c := by
  unfold findC at h
  exact ⟨List.mem_of_find?_eq_some h, keyX_iff.1 (List.find?_some h)⟩
theorem findC_none {L : List Cx} {p v c : Int} : findC L p v c = none ↔ ∀ x ∈ L, ¬ (x.p = p ∧ x.v = v ∧ x.c = c) := by
  unfold findC
  rw [List.find?_eq_none]
  exact ⟨fun h x hx he => h x hx (keyX_iff.2 he), fun h x hx he => h x hx (keyX_iff.1 he)⟩
theorem usdL_del {L : List Cx} (h : OneK L) (p v c i : Int) : usdL (delC L p v c) i = usdL L i - (match findC L p v c with | some x => if x.p = i then needC x.k else 0 | none => 0) := by
  induction L with
  | nil => simp [delC, usdL, findC]
  | cons x L ih =>
    obtain ⟨h1, h2⟩ := List.pairwise_cons.1 h
    have ih := ih h2
    unfold delC findC at ih ⊢
    by_cases hk : keyX p v c x = true
    · rw [List.filter_cons_of_neg (by simp [hk]), List.find?_cons_of_pos hk]
      have hn : L.find? (keyX p v c) = none := by
        rw [List.find?_eq_none]
        intro y hy he
        have a := keyX_iff.1 hk
        have b := keyX_iff.1 he
        exact h1 y hy ⟨a.1.trans b.1.symm, a.2.1.trans b.2.1.symm, a.2.2.trans b.2.2.symm⟩
      rw [hn] at ih
      rw [ih]
      simp only [usdL]
      omega
    · rw [List.filter_cons_of_pos (by simpa using hk), List.find?_cons_of_neg hk]
      simp only [usdL, ih]
      split <;> omega
theorem usdL_set {L : List Cx} (h : OneK L) (p v c i : Int) (f : Cx → Cx) (hf : ∀ x, (f x).p = x.p) : usdL (setC L p v c f) i = usdL L i + (match findC L p v c with | some x => if x.p = i then needC (f x).k - needC x.k else 0 | none => 0) := by
  induction L with
  | nil => simp [setC, usdL, findC]
  | cons x L ih =>
    obtain ⟨h1, h2⟩ := List.pairwise_cons.1 h
    have ih := ih h2
    unfold setC findC at ih ⊢
    rw [List.map_cons]
    by_cases hk : keyX p v c x = true
    · rw [if_pos hk, List.find?_cons_of_pos hk]
      have hn : L.find? (keyX p v c) = none := by
        rw [List.find?_eq_none]
        intro y hy he
        have a := keyX_iff.1 hk
        have b := keyX_iff.1 he
        exact h1 y hy ⟨a.1.trans b.1.symm, a.2.1.trans b.2.1.symm, a.2.2.trans b.2.2.symm⟩
      rw [hn] at ih
      simp only [usdL, ih, hf]
      split <;> omega
    · rw [if_neg hk, List.find?_cons_of_neg hk]
      simp only [usdL, ih]
      omega
theorem usdL_same {L : List Cx} (p v c i : Int) (f : Cx → Cx) (hf : ∀ x, (f x).p = x.p ∧ (f x).k = x.k) : usdL (setC L p v c f) i = usdL L i := by
  induction L with
  | nil => rfl
  | cons x L ih =>
    unfold setC at ih ⊢
    rw [List.map_cons]
    simp only [usdL, ih]
    split
    · rw [(hf x).1, (hf x).2]
    · rfl
theorem len_insC (L : List Cx) (x : Cx) : (insC L x).length = L.length + 1 := by
  unfold insC
  rw [List.length_append, List.length_cons]
  have := congrArg List.length (List.take_append_drop (aheadC L x.p x.v x.c) L)
  rw [List.length_append] at this
  omega
theorem mem_insC {L : List Cx} {x y : Cx} : y ∈ insC L x ↔ y = x ∨ y ∈ L := by
  unfold insC
  rw [List.mem_append, List.mem_cons]
  have h : y ∈ L ↔ y ∈ L.take (aheadC L x.p x.v x.c) ∨ y ∈ L.drop (aheadC L x.p x.v x.c) := by rw [← List.mem_append, List.take_append_drop]
  rw [h]
  exact ⟨fun h => by rcases h with h | h | h; exact .inr (.inl h); exact .inl h; exact .inr (.inr h), fun h => by rcases h with h | h | h; exact .inr (.inl h); exact .inl h; exact .inr (.inr h)⟩

/-! ### What a node answers -/
def leftN (rooms : List Int) (L : List Cx) (p : Int) : Int := if 0 ≤ p ∧ p < rooms.length then rooms.getD p.toNat 0 - usdL L p else 0
def usedN (rooms : List Int) (L : List Cx) (p : Int) : Int := if 0 ≤ p ∧ p < rooms.length then usdL L p else 0
def wrongN (rooms : List Int) (p v c : Int) (k : Con) : Int := if (0 ≤ p ∧ p < rooms.length) ∧ rightB p v c = true ∧ 32 ≤ c then (if rightC k = 0 then 0 else 73) else 3
def chkN (rooms : List Int) (L : List Cx) (p v c : Int) (k : Con) : Int :=
  if wrongN rooms p v c k = 0 then (if (findC L p v c).isSome = true then 35 else if 64 ≤ L.length then 47 else if needC k > leftN rooms L p then 37 else 0) else wrongN rooms p v c k
def takeN (rooms : List Int) (L : List Cx) (p v c : Int) (k : Con) : List Cx := if chkN rooms L p v c k = 0 then insC L ⟨p, v, c, k, rulesC k⟩ else L
def chgK (rooms : List Int) (L : List Cx) (p v c : Int) (k : Con) : Int :=
  if wrongN rooms p v c k = 0 then (match findC L p v c with | some x => if needC k > leftN rooms L p + needC x.k then 37 else 0 | none => 81) else wrongN rooms p v c k
def chgN (rooms : List Int) (L : List Cx) (p v c : Int) (k : Con) : List Cx := if chgK rooms L p v c k = 0 then setC L p v c (newK k) else L
def verV (L : List Cx) (p v c t clp : Int) : Int := match findC L p v c with | some x => polV (alwaysC x.k) t clp x.rs | none => 0
def verN (L : List Cx) (p v c t clp : Int) : List Cx := setC L p v c (newR t clp)
def conZ : Con := ⟨0, 0, 0, 0, 0, 0⟩
theorem wrongN_zero {rooms : List Int} {p v c : Int} {k : Con} (h : wrongN rooms p v c k = 0) : (0 ≤ p ∧ p < rooms.length) ∧ rightB p v c = true ∧ 32 ≤ c ∧ rightC k = 0 := by
  unfold wrongN at h
  split at h
  · rename_i h1
    split at h
    · rename_i h2; exact ⟨h1.1, h1.2.1, h1.2.2, h2⟩
    · cases h
  · cases h
theorem chkN_zero {rooms : List Int} {L : List Cx} {p v c : Int} {k : Con} (h : chkN rooms L p v c k = 0) : wrongN rooms p v c k = 0 ∧ findC L p v c = none ∧ L.length < 64 ∧ needC k ≤ leftN rooms L p := by
  unfold chkN at h
  split at h
  · rename_i h1
    split at h
    · cases h
    · rename_i h2
      split at h
      · cases h
      · split at h
        · cases h
        · exact ⟨h1, by cases e : findC L p v c; rfl; rw [e] at h2; exact absurd rfl h2, by omega, by omega⟩
  · rename_i h1; exact absurd h h1
theorem chgK_zero {rooms : List Int} {L : List Cx} {p v c : Int} {k : Con} (h : chgK rooms L p v c k = 0) : wrongN rooms p v c k = 0 ∧ ∃ x, findC L p v c = some x ∧ needC k ≤ leftN rooms L p + needC x.k := by
  unfold chgK at h
  split at h
  · rename_i h1
    refine ⟨h1, ?_⟩
    cases e : findC L p v c with
    | none => rw [e] at h; cases h
    | some x =>
      rw [e] at h
      simp only at h
      split at h
      · cases h
      · exact ⟨x, rfl, by omega⟩
  · rename_i h1; exact absurd h h1
/-- What a node keeps true of its list. -/
structure LI (rooms : List Int) (L : List Cx) : Prop where
  srt : SrtE (L.map Cx.e0)
  len : L.length ≤ 64
  key : ∀ x ∈ L, (0 ≤ x.p ∧ x.p < rooms.length) ∧ rightB x.p x.v x.c = true ∧ 32 ≤ x.c ∧ rightC x.k = 0
  rls : ∀ x ∈ L, RlsI x.rs
  fit : ∀ (i : Nat) (r : Int), rooms[i]? = some r → usdL L i ≤ r
  rm : rooms.length ≤ 8
  rooms : ∀ r ∈ rooms, 0 ≤ r ∧ r ≤ 1152921504606846976
theorem OneK.of_srt {L : List Cx} (h : SrtE (L.map Cx.e0)) : OneK L := by
  unfold SrtE at h
  rw [List.pairwise_map] at h
  refine h.imp fun {x y} hb he => ?_
  unfold befE at hb
  rw [befK_iff] at hb
  simp only [Cx.e0] at hb
  omega
theorem LI.one {rooms : List Int} {L : List Cx} (h : LI rooms L) : OneK L := .of_srt h.srt
theorem map_insC (L : List Cx) (x : Cx) : (insC L x).map Cx.e0 = insE (L.map Cx.e0) x.e0 := by
  unfold insC insE aheadC
  simp only [List.map_append, List.map_cons, List.map_take, List.map_drop]
  rfl
theorem map_delC (L : List Cx) (p v c : Int) : (delC L p v c).map Cx.e0 = delE (L.map Cx.e0) p v c := by
  unfold delC delE
  rw [List.filter_map]
  congr 1
theorem map_setC (L : List Cx) (p v c : Int) (f : Cx → Cx) (hf : ∀ x, (f x).e0 = x.e0) : (setC L p v c f).map Cx.e0 = L.map Cx.e0 := by
  unfold setC
  rw [List.map_map]
  apply List.map_congr_left
  intro x _
  simp only [Function.comp]
  split
  · exact hf x
  · rfl
theorem leftN_at {rooms : List Int} {L : List Cx} {i : Nat} {r : Int} (h : rooms[i]? = some r) : leftN rooms L i = r - usdL L i := by
  obtain ⟨h1, h2⟩ := List.getElem?_eq_some_iff.1 h
  unfold leftN
  rw [if_pos ⟨by omega, by omega⟩]
  simp [List.getD, h]
theorem port_nat {rooms : List Int} {p : Int} (h : 0 ≤ p ∧ p < rooms.length) : ∃ (i : Nat) (r : Int), p = (i : Int) ∧ i < rooms.length ∧ rooms[i]? = some r :=
  ⟨p.toNat, _, by omega, by omega, List.getElem?_eq_getElem (by omega)⟩
theorem LI.nil {rooms : List Int} (h : rooms.length ≤ 8) (hr : ∀ r ∈ rooms, 0 ≤ r ∧ r ≤ 1152921504606846976) : LI rooms [] :=
  ⟨List.Pairwise.nil, by simp, by simp, by simp, fun i r hi => by simp only [usdL]; exact (hr r (List.mem_of_getElem? hi)).1, h, hr⟩
theorem LI.take {rooms : List Int} {L : List Cx} (h : LI rooms L) (p v c : Int) (k : Con) : LI rooms (takeN rooms L p v c k) := by
  unfold takeN
  split
  · rename_i h0
    obtain ⟨h1, h2, h3, h4⟩ := chkN_zero h0
    obtain ⟨a1, a2, a3, a4⟩ := wrongN_zero h1
    refine ⟨?_, by rw [len_insC]; omega, fun x hx => ?_, fun x hx => ?_, fun i r hi => ?_, h.rm, h.rooms⟩
    · rw [map_insC]
      refine insE_srt h.srt fun y hy => ?_
      obtain ⟨z, hz, rfl⟩ := List.mem_map.1 hy
      exact findC_none.1 h2 z hz
    · rcases mem_insC.1 hx with rfl | hx
      · exact ⟨a1, a2, a3, a4⟩
      · exact h.key x hx
    · rcases mem_insC.1 hx with rfl | hx
      · exact RlsI.rules k
      · exact h.rls x hx
    · rw [usdL_ins]
      have := h.fit i r hi
      split
      · rename_i he
        simp only at he
        subst he
        rw [leftN_at hi] at h4
        simp only
        omega
      · omega
  · exact h
theorem LI.drop {rooms : List Int} {L : List Cx} (h : LI rooms L) (p v c : Int) : LI rooms (delC L p v c) := by
  have hm : ∀ x ∈ delC L p v c, x ∈ L := fun x hx => (List.mem_filter.1 hx).1
  refine ⟨?_, Nat.le_trans (List.length_filter_le _ _) h.len, fun x hx => h.key x (hm x hx), fun x hx => h.rls x (hm x hx), fun i r hi => ?_, h.rm, h.rooms⟩
  · rw [map_delC]; exact delE_srt h.srt p v c
  · rw [usdL_del h.one]
    have := h.fit i r hi
    split
    · rename_i x _; have := (needC_le x.k).1; split <;> omega
    · omega
theorem mem_setC {L : List Cx} {p v c : Int} {f : Cx → Cx} {y : Cx} (h : y ∈ setC L p v c f) : y ∈ L ∨ ∃ x ∈ L, (x.p = p ∧ x.v = v ∧ x.c = c) ∧ y = f x := by
  obtain ⟨x, hx, rfl⟩ := List.mem_map.1 h
  split
  · rename_i hk; exact .inr ⟨x, hx, keyX_iff.1 hk, rfl⟩
  · exact .inl hx
theorem LI.change {rooms : List Int} {L : List Cx} (h : LI rooms L) (p v c : Int) (k : Con) : LI rooms (chgN rooms L p v c k) := by
  unfold chgN
  split
  · rename_i h0
    obtain ⟨h1, x0, h2, h4⟩ := chgK_zero h0
    obtain ⟨a1, a2, a3, a4⟩ := wrongN_zero h1
    obtain ⟨b1, b2, b3, b4⟩ := findC_some h2
    refine ⟨?_, by unfold setC; rw [List.length_map]; exact h.len, fun x hx => ?_, fun x hx => ?_, fun i r hi => ?_, h.rm, h.rooms⟩
    · rw [map_setC _ _ _ _ (newK k) (fun x => rfl)]; exact h.srt
    · rcases mem_setC hx with hx | ⟨y, hy, _, rfl⟩
      · exact h.key x hx
      · have := h.key y hy; exact ⟨this.1, this.2.1, this.2.2.1, a4⟩
    · rcases mem_setC hx with hx | ⟨y, hy, _, rfl⟩
      · exact h.rls x hx
      · exact RlsI.rules k
    · rw [usdL_set h.one _ _ _ _ (newK k) (fun x => rfl), h2]
      have := h.fit i r hi
      simp only [newK]
      split
      · rename_i he
        rw [b2] at he
        subst he
        rw [leftN_at hi] at h4
        omega
      · omega
  · exact h
theorem LI.verdict {rooms : List Int} {L : List Cx} (h : LI rooms L) (p v c t clp : Int) : LI rooms (verN L p v c t clp) := by
  unfold verN
  refine ⟨?_, by unfold setC; rw [List.length_map]; exact h.len, fun x hx => ?_, fun x hx => ?_, fun i r hi => ?_, h.rm, h.rooms⟩
  · rw [map_setC _ _ _ _ (newR t clp) (fun x => rfl)]; exact h.srt
  · rcases mem_setC hx with hx | ⟨y, hy, _, rfl⟩
    · exact h.key x hx
    · exact h.key y hy
  · rcases mem_setC hx with hx | ⟨y, hy, _, rfl⟩
    · exact h.rls x hx
    · exact (h.rls y hy).take t clp
  · rw [usdL_same _ _ _ _ (newR t clp) (fun x => ⟨rfl, rfl⟩)]; exact h.fit i r hi
end Go.Proofs.Ythchmlidobgkoaa
end

section
/- Layer 20: contracts, what they cost, buckets. -/
set_option linter.unusedVariables false
set_option linter.unusedSimpArgs false
namespace Go.Proofs.Ythchmlidobgkoaa
open Go.Vc Go.RowKit

set_option maxRecDepth 100000 in
set_option maxHeartbeats 4000000 in
theorem span_w (n a : Int) (w : World) :
  CV Try.prog 28 #[.int .i64 n, .int .i64 a] w (fun x w1 => x = .bool (spanB n a) ∧ w1 = w) := by
 refine CV_enter Try.f28 _ 12 [(0, .int .i64 n), (1, .int .i64 a)] Try.func28 rfl rfl (by kernel_rfl) rfl ?_
 refine VC_seq ?_
 refine VC_region ?_
 refine VL_pure 1 [0, 1] [(0, .int .i64 n), (1, .int .i64 a)] (by kernel_rfl) rfl ?_
 refine VL_end (by kernel_rfl) ?_
 refine VQ_next ?_
 refine VC_seq ?_
 refine VC_region ?_
 refine VL_pure 4 [0, 8] [(0, .int .i64 n), (8, .bool (decide (n ≥ a)))] (by kernel_rfl) rfl ?_
 refine VL_join (decide (n ≥ a)) (fun bV => [(0, .int .i64 n), (8, .bool bV)]) 7 [(11, .bool ((decide (n ≥ a)) && (decide (n ≤ 1099511627776))))] rfl (fun hg1 J1 => ?_) (fun hg1 J1 => ?_) ?_
 ·refine VL_pure 7 [11] [(11, .bool (decide (n ≤ 1099511627776)))] (by kernel_rfl) rfl ?_
  exact VL_eq _ (by simp only [hg1, Bool.true_and, Bool.false_and, Bool.true_or, Bool.false_or, Bool.not_true, Bool.not_false]) J1
 ·refine VL_pure 7 [11] [(11, .bool false)] (by kernel_rfl) rfl ?_
  exact VL_eq _ (by simp only [hg1, Bool.true_and, Bool.false_and, Bool.true_or, Bool.false_or, Bool.not_true, Bool.not_false]) J1
 refine VL_pure 8 [4] [(4, .bool ((decide (n ≥ a)) && (decide (n ≤ 1099511627776))))] (by kernel_rfl) rfl ?_
 refine VL_end (by kernel_rfl) ?_
 refine VQ_next ?_
 refine VC_ret ?_
 refine VQ_ret1 (.bool ((decide (n ≥ a)) && (decide (n ≤ 1099511627776)))) (.inr rfl) rfl rfl ?_
 exact ⟨rfl, rfl⟩

theorem span_ce (n a : Int) : CE Try.prog 28 #[.int .i64 n, .int .i64 a] (.bool (spanB n a)) := fun w => span_w n a w
set_option maxRecDepth 100000 in
set_option maxHeartbeats 4000000 in
theorem within_w (q a b : Int) (w : World) :
  CV Try.prog 72 #[.int .i64 q, .int .i64 a, .int .i64 b] w (fun x w1 => x = .int .i64 (imax a (imin q b)) ∧ w1 = w) := by
 refine CV_enter Try.f72 _ 12 [(0, .int .i64 q), (1, .int .i64 a), (2, .int .i64 b)] Try.func72 rfl rfl (by kernel_rfl) rfl ?_
 refine VC_seq ?_
 refine VC_region ?_
 refine VL_pure 1 [0, 1, 2] [(0, .int .i64 q), (1, .int .i64 a), (2, .int .i64 b)] (by kernel_rfl) rfl ?_
 refine VL_end (by kernel_rfl) ?_
 refine VQ_next ?_
 refine VC_seq ?_
 refine VC_region ?_
 refine VL_pure 6 [6] [(6, .int .i64 (imax a (imin q b)))] (by kernel_rfl) rfl ?_
 refine VL_end (by kernel_rfl) ?_
 refine VQ_next ?_
 refine VC_ret ?_
 refine VQ_ret1 (.int .i64 (imax a (imin q b))) (.inr rfl) rfl rfl ?_
 exact ⟨rfl, rfl⟩

theorem within_ce (q a b : Int) : CE Try.prog 72 #[.int .i64 q, .int .i64 a, .int .i64 b] (.int .i64 (imax a (imin q b))) := fun w => within_w q a b w
theorem per_eq {s : Int} (h : ¬ s < 1) : IntKind.wrap .i64 (1 + IntKind.wrap .i64 ((1048575 : Int).tdiv s)) = perC s := by
  have h1 : 0 ≤ (1048575 : Int) / s := Int.ediv_nonneg (by decide) (by omega)
  have h2 : (1048575 : Int) / s ≤ 1048575 := Int.ediv_le_self _ (by decide)
  unfold perC
  rw [if_neg h, show (1048575 : Int).tdiv s = 1048575 / s from Int.tdiv_eq_ediv_of_nonneg (by decide), wrap_i64 (1048575 / s) (by omega) (by omega), wrap_i64 _ (by omega) (by omega)]
theorem up_eq {n b : Int} (h0 : 0 ≤ n) (h1 : n ≤ 2305843009213693952) (h2 : 1 ≤ b) (h3 : b ≤ 2305843009213693952) : IntKind.wrap .i64 ((IntKind.wrap .i64 (IntKind.wrap .i64 (n + b) - 1)).tdiv b) = upC n b := by
  unfold upC
  have h5 := Int.ediv_le_self b (a := n + b - 1) (by omega)
  have h6 : 0 ≤ (n + b - 1) / b := Int.ediv_nonneg (by omega) (by omega)
  rw [wrap_i64 (n + b) (by omega) (by omega), wrap_i64 (n + b - 1) (by omega) (by omega), Int.tdiv_eq_ediv_of_nonneg (by omega), wrap_i64 _ (by omega) (by omega)]
set_option maxRecDepth 100000 in
set_option maxHeartbeats 4000000 in
theorem per_w (s : Int) (w : World) :
  CV Try.prog 29 #[.int .i64 s] w (fun x w1 => x = .int .i64 (perC s) ∧ w1 = w) := by
 refine CV_enter Try.f29 _ 8 [(0, .int .i64 s)] Try.func29 rfl rfl (by kernel_rfl) rfl ?_
 refine VC_seq ?_
 refine VC_region ?_
 refine VL_pure 1 [0] [(0, .int .i64 s)] (by kernel_rfl) rfl ?_
 refine VL_end (by kernel_rfl) ?_
 refine VQ_next ?_
 refine VC_seq ?_
 refine VC_seq ?_
 refine VC_region ?_
 refine VL_pure 2 [0, 4] [(0, .int .i64 s), (4, .bool (decide (s < 1)))] (by kernel_rfl) rfl ?_
 refine VL_end (by kernel_rfl) ?_
 refine VQ_next ?_
 refine VC_dec (s < 1) (by kernel_rfl) (fun h1 => ?_) (fun h1 => ?_)
 ·refine VC_seq ?_
  refine VC_region ?_
  refine VL_pure 1 [2] [(2, .int .i64 0)] (by kernel_rfl) rfl ?_
  refine VL_end (by kernel_rfl) ?_
  refine VQ_next ?_
  refine VC_ret ?_
  refine VQ_then_ret ?_
  refine VQ_ret1 (.int .i64 0) (.inr rfl) rfl rfl ?_
  exact ⟨congrArg (Value.int .i64) (by unfold perC; rw [if_pos h1]), rfl⟩
 ·refine VC_skip ?_
  refine VQ_next ?_
  refine VC_seq ?_
  refine VC_region ?_
  refine VL_pure 1 [5] [(5, .int .i64 s)] (by kernel_rfl) rfl ?_
  refine VL_quo (d := 6) (k := .i64) (x := 1048575) (y := s) (by kernel_rfl) (by kernel_rfl) (by omega) ?_
  refine VL_pure 4 [2] [(2, .int .i64 (IntKind.wrap .i64 (1 + (IntKind.wrap .i64 ((1048575 : Int).tdiv s)))))] (by kernel_rfl) rfl ?_
  refine VL_end (by kernel_rfl) ?_
  refine VQ_next ?_
  refine VC_ret ?_
  refine VQ_ret1 (.int .i64 (IntKind.wrap .i64 (1 + (IntKind.wrap .i64 ((1048575 : Int).tdiv s))))) (.inr rfl) rfl rfl ?_
  exact ⟨congrArg (Value.int .i64) ((per_eq h1)), rfl⟩

theorem per_ce (s : Int) : CE Try.prog 29 #[.int .i64 s] (.int .i64 (perC s)) := fun w => per_w s w
set_option maxRecDepth 100000 in
set_option maxHeartbeats 4000000 in
theorem up_w (n b : Int) (h0 : 0 ≤ n) (h1 : n ≤ 2305843009213693952) (h2 : 1 ≤ b) (h3 : b ≤ 2305843009213693952) (w : World) :
  CV Try.prog 30 #[.int .i64 n, .int .i64 b] w (fun x w1 => x = .int .i64 (upC n b) ∧ w1 = w) := by
 refine CV_enter Try.f30 _ 11 [(0, .int .i64 n), (1, .int .i64 b)] Try.func30 rfl rfl (by kernel_rfl) rfl ?_
 refine VC_seq ?_
 refine VC_region ?_
 refine VL_pure 1 [0, 1] [(0, .int .i64 n), (1, .int .i64 b)] (by kernel_rfl) rfl ?_
 refine VL_end (by kernel_rfl) ?_
 refine VQ_next ?_
 refine VC_seq ?_
 refine VC_region ?_
 refine VL_pure 5 [8, 9] [(8, .int .i64 (IntKind.wrap .i64 ((IntKind.wrap .i64 (n + b)) - 1))), (9, .int .i64 b)] (by kernel_rfl) rfl ?_
 refine VL_quo (d := 10) (k := .i64) (x := (IntKind.wrap .i64 ((IntKind.wrap .i64 (n + b)) - 1))) (y := b) (by kernel_rfl) (by kernel_rfl) (by omega) ?_
 refine VL_pure 7 [4] [(4, .int .i64 (IntKind.wrap .i64 ((IntKind.wrap .i64 ((IntKind.wrap .i64 (n + b)) - 1)).tdiv b)))] (by kernel_rfl) rfl ?_
 refine VL_end (by kernel_rfl) ?_
 refine VQ_next ?_
 refine VC_ret ?_
 refine VQ_ret1 (.int .i64 (IntKind.wrap .i64 ((IntKind.wrap .i64 ((IntKind.wrap .i64 (n + b)) - 1)).tdiv b))) (.inr rfl) rfl rfl ?_
 exact ⟨congrArg (Value.int .i64) (up_eq h0 h1 h2 h3), rfl⟩

set_option maxRecDepth 100000 in
set_option maxHeartbeats 4000000 in
theorem cright_any (c : Con) (w : World) :
  CV Try.prog 13 #[.agg #[.int .i64 c.kind, .int .i64 c.peak, .int .i64 c.early, .int .i64 c.whole, .int .i64 c.burst, .int .i64 c.least]] w (fun x w1 => x = .int .i64 (rightC c) ∧ Step No w w1) := by
 have hS : Step No w w := Step.refl _ _
 refine CV_enter Try.f13 _ 83 [(0, .agg #[.int .i64 c.kind, .int .i64 c.peak, .int .i64 c.early, .int .i64 c.whole, .int .i64 c.burst, .int .i64 c.least])] Try.func13 rfl rfl (by kernel_rfl) rfl ?_
 refine VC_seq ?_
 refine VC_region ?_
 have hzs1 := hS.size
 refine VL_box (d := 1) (t := 30) (c := #[.int .i64 c.kind, .int .i64 c.peak, .int .i64 c.early, .int .i64 c.whole, .int .i64 c.burst, .int .i64 c.least]) (by kernel_rfl) (by kernel_rfl) ?_
 intro b1 w1 hn1
 replace hS := Step.trans hS (hn1.step No)
 have ho1 := hn1.own
 have hzhn1 := hn1.size
 have hqhn1 := hn1.eqb
 refine VL_pure 2 [1] [(1, .pointer (some ⟨b1, 0, none⟩))] (by kernel_rfl) rfl ?_
 refine VL_end (by kernel_rfl) ?_
 refine VQ_next ?_
 refine VC_seq ?_
 refine VC_region ?_
 refine VL_pure 1 [1, 4] [(1, .pointer (some ⟨b1, 0, none⟩)), (4, .pointer (some ⟨b1, 1, none⟩))] (by kernel_rfl) rfl ?_
 refine VL_load (d := 5) (t := 3) (a := ⟨b1, 1, none⟩) (v := .int .i64 c.peak) (by kernel_rfl) (by kernel_rfl) (Loads.own1 ho1 (by kernel_rfl) (by rfl)) ?_
 have hzs2 := hS.size
 have hzl1 := ho1.lt
 refine VL_call (d := 6) (f := 28) (args := #[.int .i64 c.peak, .int .i64 1]) (by kernel_rfl) (by kernel_rfl) (by kernel_rfl) Try.call28 ((span_ce c.peak 1) w1) ?_
 rintro _ w2 ⟨rfl, hc1⟩
 subst w2
 refine VL_pure 4 [1, 7] [(1, .pointer (some ⟨b1, 0, none⟩)), (7, .bool (spanB c.peak 1))] (by kernel_rfl) rfl ?_
 refine VL_join (spanB c.peak 1) (fun bV => [(1, .pointer (some ⟨b1, 0, none⟩)), (7, .bool bV)]) 8 [(1, .pointer (some ⟨b1, 0, none⟩)), (11, .bool ((spanB c.peak 1) && (spanB c.early 0)))] rfl (fun hg1 J1 => ?_) (fun hg1 J1 => ?_) ?_
 ·refine VL_pure 5 [1, 7, 8] [(1, .pointer (some ⟨b1, 0, none⟩)), (7, .bool true), (8, .pointer (some ⟨b1, 2, none⟩))] (by kernel_rfl) rfl ?_
  refine VL_load (d := 9) (t := 3) (a := ⟨b1, 2, none⟩) (v := .int .i64 c.early) (by kernel_rfl) (by kernel_rfl) (Loads.own1 ho1 (by kernel_rfl) (by rfl)) ?_
  have hzs3 := hS.size
  have hzl2 := ho1.lt
  refine VL_call (d := 10) (f := 28) (args := #[.int .i64 c.early, .int .i64 0]) (by kernel_rfl) (by kernel_rfl) (by kernel_rfl) Try.call28 ((span_ce c.early 0) w1) ?_
  rintro _ w3 ⟨rfl, hc2⟩
  subst w3
  refine VL_pure 8 [1, 11] [(1, .pointer (some ⟨b1, 0, none⟩)), (11, .bool (spanB c.early 0))] (by kernel_rfl) rfl ?_
  exact VL_eq _ (by simp only [hg1, Bool.true_and, Bool.false_and, Bool.true_or, Bool.false_or, Bool.not_true, Bool.not_false]) J1
 ·refine VL_pure 8 [1, 11] [(1, .pointer (some ⟨b1, 0, none⟩)), (11, .bool false)] (by kernel_rfl) rfl ?_
  exact VL_eq _ (by simp only [hg1, Bool.true_and, Bool.false_and, Bool.true_or, Bool.false_or, Bool.not_true, Bool.not_false]) J1
 refine VL_pure 9 [1, 3] [(1, .pointer (some ⟨b1, 0, none⟩)), (3, .bool ((spanB c.peak 1) && (spanB c.early 0)))] (by kernel_rfl) rfl ?_
 refine VL_end (by kernel_rfl) ?_
 refine VQ_next ?_
 refine VC_seq ?_
 refine VC_seq ?_
 refine VC_region ?_
 refine VL_pure 1 [1, 3, 12] [(1, .pointer (some ⟨b1, 0, none⟩)), (3, .bool ((spanB c.peak 1) && (spanB c.early 0))), (12, .pointer (some ⟨b1, 0, none⟩))] (by kernel_rfl) rfl ?_
 refine VL_load (d := 13) (t := 3) (a := ⟨b1, 0, none⟩) (v := .int .i64 c.kind) (by kernel_rfl) (by kernel_rfl) (Loads.own1 ho1 (by kernel_rfl) (by rfl)) ?_
 refine VL_end (by kernel_rfl) ?_
 refine VQ_next ?_
 refine VC_block ?_
 refine VC_seq ?_
 refine VC_seq ?_
 refine VC_region ?_
 refine VL_pure 2 [1, 3, 13, 14] [(1, .pointer (some ⟨b1, 0, none⟩)), (3, .bool ((spanB c.peak 1) && (spanB c.early 0))), (13, .int .i64 c.kind), (14, .bool (c.kind == 2))] (by kernel_rfl) rfl ?_
 refine VL_end (by kernel_rfl) ?_
 refine VQ_next ?_
 refine VC_eq c.kind 2 (by kernel_rfl) (fun h1 => ?_) (fun h1 => ?_)
 ·refine VC_skip ?_
  refine VQ_next ?_
  refine VC_eq c.kind 2 (by kernel_rfl) (fun h2 => ?_) (fun h2 => ?_)
  ·refine VC_region ?_
   refine VL_pure 2 [1, 19] [(1, .pointer (some ⟨b1, 0, none⟩)), (19, .bool ((spanB c.peak 1) && (spanB c.early 0)))] (by kernel_rfl) rfl ?_
   refine VL_join ((spanB c.peak 1) && (spanB c.early 0)) (fun bV => [(1, .pointer (some ⟨b1, 0, none⟩)), (19, .bool bV)]) 8 [(1, .pointer (some ⟨b1, 0, none⟩)), (25, .bool (((spanB c.peak 1) && (spanB c.early 0)) && (spanB c.whole c.peak)))] rfl (fun hg2 J2 => ?_) (fun hg2 J2 => ?_) ?_
   ·refine VL_pure 3 [1, 19, 20] [(1, .pointer (some ⟨b1, 0, none⟩)), (19, .bool true), (20, .pointer (some ⟨b1, 3, none⟩))] (by kernel_rfl) rfl ?_
    refine VL_load (d := 21) (t := 3) (a := ⟨b1, 3, none⟩) (v := .int .i64 c.whole) (by kernel_rfl) (by kernel_rfl) (Loads.own1 ho1 (by kernel_rfl) (by rfl)) ?_
    refine VL_pure 5 [1, 19, 21, 22] [(1, .pointer (some ⟨b1, 0, none⟩)), (19, .bool true), (21, .int .i64 c.whole), (22, .pointer (some ⟨b1, 1, none⟩))] (by kernel_rfl) rfl ?_
    refine VL_load (d := 23) (t := 3) (a := ⟨b1, 1, none⟩) (v := .int .i64 c.peak) (by kernel_rfl) (by kernel_rfl) (Loads.own1 ho1 (by kernel_rfl) (by rfl)) ?_
    have hzs4 := hS.size
    have hzl3 := ho1.lt
    refine VL_call (d := 24) (f := 28) (args := #[.int .i64 c.whole, .int .i64 c.peak]) (by kernel_rfl) (by kernel_rfl) (by kernel_rfl) Try.call28 ((span_ce c.whole c.peak) w1) ?_
    rintro _ w4 ⟨rfl, hc3⟩
    subst w4
    refine VL_pure 8 [1, 25] [(1, .pointer (some ⟨b1, 0, none⟩)), (25, .bool (spanB c.whole c.peak))] (by kernel_rfl) rfl ?_
    exact VL_eq _ (by simp only [hg2, Bool.true_and, Bool.false_and, Bool.true_or, Bool.false_or, Bool.not_true, Bool.not_false]) J2
   ·refine VL_pure 8 [1, 25] [(1, .pointer (some ⟨b1, 0, none⟩)), (25, .bool false)] (by kernel_rfl) rfl ?_
    exact VL_eq _ (by simp only [hg2, Bool.true_and, Bool.false_and, Bool.true_or, Bool.false_or, Bool.not_true, Bool.not_false]) J2
   refine VL_pure 9 [1, 26] [(1, .pointer (some ⟨b1, 0, none⟩)), (26, .bool (((spanB c.peak 1) && (spanB c.early 0)) && (spanB c.whole c.peak)))] (by kernel_rfl) rfl ?_
   refine VL_join (((spanB c.peak 1) && (spanB c.early 0)) && (spanB c.whole c.peak)) (fun bV => [(1, .pointer (some ⟨b1, 0, none⟩)), (26, .bool bV)]) 13 [(1, .pointer (some ⟨b1, 0, none⟩)), (30, .bool ((((spanB c.peak 1) && (spanB c.early 0)) && (spanB c.whole c.peak)) && (spanB c.burst 0)))] rfl (fun hg3 J3 => ?_) (fun hg3 J3 => ?_) ?_
   ·refine VL_pure 10 [1, 26, 27] [(1, .pointer (some ⟨b1, 0, none⟩)), (26, .bool true), (27, .pointer (some ⟨b1, 4, none⟩))] (by kernel_rfl) rfl ?_
    refine VL_load (d := 28) (t := 3) (a := ⟨b1, 4, none⟩) (v := .int .i64 c.burst) (by kernel_rfl) (by kernel_rfl) (Loads.own1 ho1 (by kernel_rfl) (by rfl)) ?_
    have hzs5 := hS.size
    have hzl4 := ho1.lt
    refine VL_call (d := 29) (f := 28) (args := #[.int .i64 c.burst, .int .i64 0]) (by kernel_rfl) (by kernel_rfl) (by kernel_rfl) Try.call28 ((span_ce c.burst 0) w1) ?_
    rintro _ w5 ⟨rfl, hc4⟩
    subst w5
    refine VL_pure 13 [1, 30] [(1, .pointer (some ⟨b1, 0, none⟩)), (30, .bool (spanB c.burst 0))] (by kernel_rfl) rfl ?_
    exact VL_eq _ (by simp only [hg3, Bool.true_and, Bool.false_and, Bool.true_or, Bool.false_or, Bool.not_true, Bool.not_false]) J3
   ·refine VL_pure 13 [1, 30] [(1, .pointer (some ⟨b1, 0, none⟩)), (30, .bool false)] (by kernel_rfl) rfl ?_
    exact VL_eq _ (by simp only [hg3, Bool.true_and, Bool.false_and, Bool.true_or, Bool.false_or, Bool.not_true, Bool.not_false]) J3
   refine VL_pure 14 [1, 31] [(1, .pointer (some ⟨b1, 0, none⟩)), (31, .bool ((((spanB c.peak 1) && (spanB c.early 0)) && (spanB c.whole c.peak)) && (spanB c.burst 0)))] (by kernel_rfl) rfl ?_
   refine VL_join ((((spanB c.peak 1) && (spanB c.early 0)) && (spanB c.whole c.peak)) && (spanB c.burst 0)) (fun bV => [(1, .pointer (some ⟨b1, 0, none⟩)), (31, .bool bV)]) 18 [(35, .bool (((((spanB c.peak 1) && (spanB c.early 0)) && (spanB c.whole c.peak)) && (spanB c.burst 0)) && (c.least == 0)))] rfl (fun hg4 J4 => ?_) (fun hg4 J4 => ?_) ?_
   ·refine VL_pure 15 [31, 32] [(31, .bool true), (32, .pointer (some ⟨b1, 5, none⟩))] (by kernel_rfl) rfl ?_
    refine VL_load (d := 33) (t := 3) (a := ⟨b1, 5, none⟩) (v := .int .i64 c.least) (by kernel_rfl) (by kernel_rfl) (Loads.own1 ho1 (by kernel_rfl) (by rfl)) ?_
    refine VL_pure 18 [35] [(35, .bool (c.least == 0))] (by kernel_rfl) rfl ?_
    exact VL_eq _ (by simp only [hg4, Bool.true_and, Bool.false_and, Bool.true_or, Bool.false_or, Bool.not_true, Bool.not_false]) J4
   ·refine VL_pure 18 [35] [(35, .bool false)] (by kernel_rfl) rfl ?_
    exact VL_eq _ (by simp only [hg4, Bool.true_and, Bool.false_and, Bool.true_or, Bool.false_or, Bool.not_true, Bool.not_false]) J4
   refine VL_pure 19 [3] [(3, .bool (((((spanB c.peak 1) && (spanB c.early 0)) && (spanB c.whole c.peak)) && (spanB c.burst 0)) && (c.least == 0)))] (by kernel_rfl) rfl ?_
   refine VL_end (by kernel_rfl) ?_
   refine VQ_block_normal ?_
   refine VQ_next ?_
   refine VC_seq ?_
   refine VC_seq ?_
   have hE : (((((spanB c.peak 1) && (spanB c.early 0)) && (spanB c.whole c.peak)) && (spanB c.burst 0)) && (c.least == 0)) = (rightC c == 0) := right_vbr (by omega)
   refine VC_eqL [(3, .bool ((rightC c) == 0))] (by rw [hE]) ?_
   refine VC_region ?_
   refine VL_pure 2 [82] [(82, .bool (!((rightC c) == 0)))] (by kernel_rfl) rfl ?_
   refine VL_end (by kernel_rfl) ?_
   refine VQ_next ?_
   refine VC_cond (!((rightC c) == 0)) (by kernel_rfl) (fun h3 => ?_) (fun h3 => ?_)
   ·try simp only [Bool.and_eq_true, Bool.or_eq_true, decide_eq_true_eq, Bool.not_eq_true', decide_eq_false_iff_not, Bool.and_eq_false_iff, Bool.or_eq_false_iff, beq_iff_eq, bne_iff_ne, beq_eq_false_iff_ne, bne_eq_false_iff_eq, Bool.not_eq_eq_eq_not, Bool.not_true, Bool.not_false] at h3
    refine VC_seq ?_
    refine VC_region ?_
    refine VL_pure 1 [2] [(2, .int .i64 11)] (by kernel_rfl) rfl ?_
    refine VL_end (by kernel_rfl) ?_
    refine VQ_next ?_
    refine VC_ret ?_
    refine VQ_then_ret ?_
    refine VQ_ret1 (.int .i64 11) (.inr rfl) rfl rfl ?_
    exact ⟨congrArg (Value.int .i64) (by first | exact Eq.symm (by assumption) | exact right11 (by omega) (by omega) (by assumption) | exact right12 (by omega)), hS⟩
   ·try simp only [Bool.and_eq_true, Bool.or_eq_true, decide_eq_true_eq, Bool.not_eq_true', decide_eq_false_iff_not, Bool.and_eq_false_iff, Bool.or_eq_false_iff, beq_iff_eq, bne_iff_ne, beq_eq_false_iff_ne, bne_eq_false_iff_eq, Bool.not_eq_eq_eq_not, Bool.not_true, Bool.not_false] at h3
    refine VC_skip ?_
    refine VQ_next ?_
    refine VC_seq ?_
    refine VC_region ?_
    refine VL_pure 1 [2] [(2, .int .i64 0)] (by kernel_rfl) rfl ?_
    refine VL_end (by kernel_rfl) ?_
    refine VQ_next ?_
    refine VC_ret ?_
    refine VQ_ret1 (.int .i64 0) (.inr rfl) rfl rfl ?_
    exact ⟨congrArg (Value.int .i64) (by first | exact Eq.symm (by assumption) | exact right11 (by omega) (by omega) (by assumption) | exact right12 (by omega)), hS⟩
  ·refine VC_seq ?_
   refine VC_region ?_
   refine VL_pure 2 [1, 3, 13, 36] [(1, .pointer (some ⟨b1, 0, none⟩)), (3, .bool ((spanB c.peak 1) && (spanB c.early 0))), (13, .int .i64 c.kind), (36, .bool (c.kind == 5))] (by kernel_rfl) rfl ?_
   refine VL_end (by kernel_rfl) ?_
   refine VQ_next ?_
   refine VC_eq c.kind 5 (by kernel_rfl) (fun h4 => ?_) (fun h4 => ?_)
   ·refine VC_region ?_
    refine VL_pure 2 [1, 39] [(1, .pointer (some ⟨b1, 0, none⟩)), (39, .bool ((spanB c.peak 1) && (spanB c.early 0)))] (by kernel_rfl) rfl ?_
    refine VL_join ((spanB c.peak 1) && (spanB c.early 0)) (fun bV => [(1, .pointer (some ⟨b1, 0, none⟩)), (39, .bool bV)]) 6 [(1, .pointer (some ⟨b1, 0, none⟩)), (43, .bool (((spanB c.peak 1) && (spanB c.early 0)) && (c.whole == 0)))] rfl (fun hg5 J5 => ?_) (fun hg5 J5 => ?_) ?_
    ·refine VL_pure 3 [1, 39, 40] [(1, .pointer (some ⟨b1, 0, none⟩)), (39, .bool true), (40, .pointer (some ⟨b1, 3, none⟩))] (by kernel_rfl) rfl ?_
     refine VL_load (d := 41) (t := 3) (a := ⟨b1, 3, none⟩) (v := .int .i64 c.whole) (by kernel_rfl) (by kernel_rfl) (Loads.own1 ho1 (by kernel_rfl) (by rfl)) ?_
     refine VL_pure 6 [1, 43] [(1, .pointer (some ⟨b1, 0, none⟩)), (43, .bool (c.whole == 0))] (by kernel_rfl) rfl ?_
     exact VL_eq _ (by simp only [hg5, Bool.true_and, Bool.false_and, Bool.true_or, Bool.false_or, Bool.not_true, Bool.not_false]) J5
    ·refine VL_pure 6 [1, 43] [(1, .pointer (some ⟨b1, 0, none⟩)), (43, .bool false)] (by kernel_rfl) rfl ?_
     exact VL_eq _ (by simp only [hg5, Bool.true_and, Bool.false_and, Bool.true_or, Bool.false_or, Bool.not_true, Bool.not_false]) J5
    refine VL_pure 7 [1, 44] [(1, .pointer (some ⟨b1, 0, none⟩)), (44, .bool (((spanB c.peak 1) && (spanB c.early 0)) && (c.whole == 0)))] (by kernel_rfl) rfl ?_
    refine VL_join (((spanB c.peak 1) && (spanB c.early 0)) && (c.whole == 0)) (fun bV => [(1, .pointer (some ⟨b1, 0, none⟩)), (44, .bool bV)]) 11 [(1, .pointer (some ⟨b1, 0, none⟩)), (48, .bool ((((spanB c.peak 1) && (spanB c.early 0)) && (c.whole == 0)) && (c.burst == 0)))] rfl (fun hg6 J6 => ?_) (fun hg6 J6 => ?_) ?_
    ·refine VL_pure 8 [1, 44, 45] [(1, .pointer (some ⟨b1, 0, none⟩)), (44, .bool true), (45, .pointer (some ⟨b1, 4, none⟩))] (by kernel_rfl) rfl ?_
     refine VL_load (d := 46) (t := 3) (a := ⟨b1, 4, none⟩) (v := .int .i64 c.burst) (by kernel_rfl) (by kernel_rfl) (Loads.own1 ho1 (by kernel_rfl) (by rfl)) ?_
     refine VL_pure 11 [1, 48] [(1, .pointer (some ⟨b1, 0, none⟩)), (48, .bool (c.burst == 0))] (by kernel_rfl) rfl ?_
     exact VL_eq _ (by simp only [hg6, Bool.true_and, Bool.false_and, Bool.true_or, Bool.false_or, Bool.not_true, Bool.not_false]) J6
    ·refine VL_pure 11 [1, 48] [(1, .pointer (some ⟨b1, 0, none⟩)), (48, .bool false)] (by kernel_rfl) rfl ?_
     exact VL_eq _ (by simp only [hg6, Bool.true_and, Bool.false_and, Bool.true_or, Bool.false_or, Bool.not_true, Bool.not_false]) J6
    refine VL_pure 12 [1, 49] [(1, .pointer (some ⟨b1, 0, none⟩)), (49, .bool ((((spanB c.peak 1) && (spanB c.early 0)) && (c.whole == 0)) && (c.burst == 0)))] (by kernel_rfl) rfl ?_
    refine VL_join ((((spanB c.peak 1) && (spanB c.early 0)) && (c.whole == 0)) && (c.burst == 0)) (fun bV => [(1, .pointer (some ⟨b1, 0, none⟩)), (49, .bool bV)]) 23 [(60, .bool (((((spanB c.peak 1) && (spanB c.early 0)) && (c.whole == 0)) && (c.burst == 0)) && ((c.least == 0) || (spanB c.least c.peak))))] rfl (fun hg7 J7 => ?_) (fun hg7 J7 => ?_) ?_
    ·refine VL_pure 13 [1, 49, 50] [(1, .pointer (some ⟨b1, 0, none⟩)), (49, .bool true), (50, .pointer (some ⟨b1, 5, none⟩))] (by kernel_rfl) rfl ?_
     refine VL_load (d := 51) (t := 3) (a := ⟨b1, 5, none⟩) (v := .int .i64 c.least) (by kernel_rfl) (by kernel_rfl) (Loads.own1 ho1 (by kernel_rfl) (by rfl)) ?_
     refine VL_pure 16 [1, 49, 53] [(1, .pointer (some ⟨b1, 0, none⟩)), (49, .bool true), (53, .bool (c.least == 0))] (by kernel_rfl) rfl ?_
     refine VL_join (c.least == 0) (fun bV => [(1, .pointer (some ⟨b1, 0, none⟩)), (49, .bool true), (53, .bool bV)]) 22 [(49, .bool true), (59, .bool ((c.least == 0) || (spanB c.least c.peak)))] rfl (fun hg8 J8 => ?_) (fun hg8 J8 => ?_) ?_
     ·refine VL_pure 22 [49, 59] [(49, .bool true), (59, .bool true)] (by kernel_rfl) rfl ?_
      exact VL_eq _ (by simp only [hg8, Bool.true_and, Bool.false_and, Bool.true_or, Bool.false_or, Bool.not_true, Bool.not_false]) J8
     ·refine VL_pure 17 [1, 49, 53, 54] [(1, .pointer (some ⟨b1, 0, none⟩)), (49, .bool true), (53, .bool false), (54, .pointer (some ⟨b1, 5, none⟩))] (by kernel_rfl) rfl ?_
      refine VL_load (d := 55) (t := 3) (a := ⟨b1, 5, none⟩) (v := .int .i64 c.least) (by kernel_rfl) (by kernel_rfl) (Loads.own1 ho1 (by kernel_rfl) (by rfl)) ?_
      refine VL_pure 19 [49, 53, 55, 56] [(49, .bool true), (53, .bool false), (55, .int .i64 c.least), (56, .pointer (some ⟨b1, 1, none⟩))] (by kernel_rfl) rfl ?_
      refine VL_load (d := 57) (t := 3) (a := ⟨b1, 1, none⟩) (v := .int .i64 c.peak) (by kernel_rfl) (by kernel_rfl) (Loads.own1 ho1 (by kernel_rfl) (by rfl)) ?_
      have hzs6 := hS.size
      have hzl5 := ho1.lt
      refine VL_call (d := 58) (f := 28) (args := #[.int .i64 c.least, .int .i64 c.peak]) (by kernel_rfl) (by kernel_rfl) (by kernel_rfl) Try.call28 ((span_ce c.least c.peak) w1) ?_
      rintro _ w6 ⟨rfl, hc5⟩
      subst w6
      refine VL_pure 22 [49, 59] [(49, .bool true), (59, .bool (spanB c.least c.peak))] (by kernel_rfl) rfl ?_
      exact VL_eq _ (by simp only [hg8, Bool.true_and, Bool.false_and, Bool.true_or, Bool.false_or, Bool.not_true, Bool.not_false]) J8
     refine VL_pure 23 [60] [(60, .bool ((c.least == 0) || (spanB c.least c.peak)))] (by kernel_rfl) rfl ?_
     exact VL_eq _ (by simp only [hg7, Bool.true_and, Bool.false_and, Bool.true_or, Bool.false_or, Bool.not_true, Bool.not_false]) J7
    ·refine VL_pure 23 [60] [(60, .bool false)] (by kernel_rfl) rfl ?_
     exact VL_eq _ (by simp only [hg7, Bool.true_and, Bool.false_and, Bool.true_or, Bool.false_or, Bool.not_true, Bool.not_false]) J7
    refine VL_pure 24 [3] [(3, .bool (((((spanB c.peak 1) && (spanB c.early 0)) && (c.whole == 0)) && (c.burst == 0)) && ((c.least == 0) || (spanB c.least c.peak))))] (by kernel_rfl) rfl ?_
    refine VL_end (by kernel_rfl) ?_
    refine VQ_block_normal ?_
    refine VQ_next ?_
    refine VC_seq ?_
    refine VC_seq ?_
    have hE : (((((spanB c.peak 1) && (spanB c.early 0)) && (c.whole == 0)) && (c.burst == 0)) && ((c.least == 0) || (spanB c.least c.peak))) = (rightC c == 0) := right_abr (by omega)
    refine VC_eqL [(3, .bool ((rightC c) == 0))] (by rw [hE]) ?_
    refine VC_region ?_
    refine VL_pure 2 [82] [(82, .bool (!((rightC c) == 0)))] (by kernel_rfl) rfl ?_
    refine VL_end (by kernel_rfl) ?_
    refine VQ_next ?_
    refine VC_cond (!((rightC c) == 0)) (by kernel_rfl) (fun h5 => ?_) (fun h5 => ?_)
    ·try simp only [Bool.and_eq_true, Bool.or_eq_true, decide_eq_true_eq, Bool.not_eq_true', decide_eq_false_iff_not, Bool.and_eq_false_iff, Bool.or_eq_false_iff, beq_iff_eq, bne_iff_ne, beq_eq_false_iff_ne, bne_eq_false_iff_eq, Bool.not_eq_eq_eq_not, Bool.not_true, Bool.not_false] at h5
     refine VC_seq ?_
     refine VC_region ?_
     refine VL_pure 1 [2] [(2, .int .i64 11)] (by kernel_rfl) rfl ?_
     refine VL_end (by kernel_rfl) ?_
     refine VQ_next ?_
     refine VC_ret ?_
     refine VQ_then_ret ?_
     refine VQ_ret1 (.int .i64 11) (.inr rfl) rfl rfl ?_
     exact ⟨congrArg (Value.int .i64) (by first | exact Eq.symm (by assumption) | exact right11 (by omega) (by omega) (by assumption) | exact right12 (by omega)), hS⟩
    ·try simp only [Bool.and_eq_true, Bool.or_eq_true, decide_eq_true_eq, Bool.not_eq_true', decide_eq_false_iff_not, Bool.and_eq_false_iff, Bool.or_eq_false_iff, beq_iff_eq, bne_iff_ne, beq_eq_false_iff_ne, bne_eq_false_iff_eq, Bool.not_eq_eq_eq_not, Bool.not_true, Bool.not_false] at h5
     refine VC_skip ?_
     refine VQ_next ?_
     refine VC_seq ?_
     refine VC_region ?_
     refine VL_pure 1 [2] [(2, .int .i64 0)] (by kernel_rfl) rfl ?_
     refine VL_end (by kernel_rfl) ?_
     refine VQ_next ?_
     refine VC_ret ?_
     refine VQ_ret1 (.int .i64 0) (.inr rfl) rfl rfl ?_
     exact ⟨congrArg (Value.int .i64) (by first | exact Eq.symm (by assumption) | exact right11 (by omega) (by omega) (by assumption) | exact right12 (by omega)), hS⟩
   ·refine VC_seq ?_
    refine VC_seq ?_
    refine VC_region ?_
    refine VL_pure 2 [1, 3, 13, 61] [(1, .pointer (some ⟨b1, 0, none⟩)), (3, .bool ((spanB c.peak 1) && (spanB c.early 0))), (13, .int .i64 c.kind), (61, .bool (c.kind == 1))] (by kernel_rfl) rfl ?_
    refine VL_end (by kernel_rfl) ?_
    refine VQ_next ?_
    refine VC_eq c.kind 1 (by kernel_rfl) (fun h6 => ?_) (fun h6 => ?_)
    ·refine VC_skip ?_
     refine VQ_next ?_
     refine VC_eq c.kind 1 (by kernel_rfl) (fun h7 => ?_) (fun h7 => ?_)
     ·refine VC_region ?_
      refine VL_pure 2 [1, 66] [(1, .pointer (some ⟨b1, 0, none⟩)), (66, .bool ((spanB c.peak 1) && (spanB c.early 0)))] (by kernel_rfl) rfl ?_
      refine VL_join ((spanB c.peak 1) && (spanB c.early 0)) (fun bV => [(1, .pointer (some ⟨b1, 0, none⟩)), (66, .bool bV)]) 6 [(1, .pointer (some ⟨b1, 0, none⟩)), (70, .bool (((spanB c.peak 1) && (spanB c.early 0)) && (c.whole == 0)))] rfl (fun hg9 J9 => ?_) (fun hg9 J9 => ?_) ?_
      ·refine VL_pure 3 [1, 66, 67] [(1, .pointer (some ⟨b1, 0, none⟩)), (66, .bool true), (67, .pointer (some ⟨b1, 3, none⟩))] (by kernel_rfl) rfl ?_
       refine VL_load (d := 68) (t := 3) (a := ⟨b1, 3, none⟩) (v := .int .i64 c.whole) (by kernel_rfl) (by kernel_rfl) (Loads.own1 ho1 (by kernel_rfl) (by rfl)) ?_
       refine VL_pure 6 [1, 70] [(1, .pointer (some ⟨b1, 0, none⟩)), (70, .bool (c.whole == 0))] (by kernel_rfl) rfl ?_
       exact VL_eq _ (by simp only [hg9, Bool.true_and, Bool.false_and, Bool.true_or, Bool.false_or, Bool.not_true, Bool.not_false]) J9
      ·refine VL_pure 6 [1, 70] [(1, .pointer (some ⟨b1, 0, none⟩)), (70, .bool false)] (by kernel_rfl) rfl ?_
       exact VL_eq _ (by simp only [hg9, Bool.true_and, Bool.false_and, Bool.true_or, Bool.false_or, Bool.not_true, Bool.not_false]) J9
      refine VL_pure 7 [1, 71] [(1, .pointer (some ⟨b1, 0, none⟩)), (71, .bool (((spanB c.peak 1) && (spanB c.early 0)) && (c.whole == 0)))] (by kernel_rfl) rfl ?_
      refine VL_join (((spanB c.peak 1) && (spanB c.early 0)) && (c.whole == 0)) (fun bV => [(1, .pointer (some ⟨b1, 0, none⟩)), (71, .bool bV)]) 11 [(1, .pointer (some ⟨b1, 0, none⟩)), (75, .bool ((((spanB c.peak 1) && (spanB c.early 0)) && (c.whole == 0)) && (c.burst == 0)))] rfl (fun hg10 J10 => ?_) (fun hg10 J10 => ?_) ?_
      ·refine VL_pure 8 [1, 71, 72] [(1, .pointer (some ⟨b1, 0, none⟩)), (71, .bool true), (72, .pointer (some ⟨b1, 4, none⟩))] (by kernel_rfl) rfl ?_
       refine VL_load (d := 73) (t := 3) (a := ⟨b1, 4, none⟩) (v := .int .i64 c.burst) (by kernel_rfl) (by kernel_rfl) (Loads.own1 ho1 (by kernel_rfl) (by rfl)) ?_
       refine VL_pure 11 [1, 75] [(1, .pointer (some ⟨b1, 0, none⟩)), (75, .bool (c.burst == 0))] (by kernel_rfl) rfl ?_
       exact VL_eq _ (by simp only [hg10, Bool.true_and, Bool.false_and, Bool.true_or, Bool.false_or, Bool.not_true, Bool.not_false]) J10
      ·refine VL_pure 11 [1, 75] [(1, .pointer (some ⟨b1, 0, none⟩)), (75, .bool false)] (by kernel_rfl) rfl ?_
       exact VL_eq _ (by simp only [hg10, Bool.true_and, Bool.false_and, Bool.true_or, Bool.false_or, Bool.not_true, Bool.not_false]) J10
      refine VL_pure 12 [1, 76] [(1, .pointer (some ⟨b1, 0, none⟩)), (76, .bool ((((spanB c.peak 1) && (spanB c.early 0)) && (c.whole == 0)) && (c.burst == 0)))] (by kernel_rfl) rfl ?_
      refine VL_join ((((spanB c.peak 1) && (spanB c.early 0)) && (c.whole == 0)) && (c.burst == 0)) (fun bV => [(1, .pointer (some ⟨b1, 0, none⟩)), (76, .bool bV)]) 16 [(80, .bool (((((spanB c.peak 1) && (spanB c.early 0)) && (c.whole == 0)) && (c.burst == 0)) && (c.least == 0)))] rfl (fun hg11 J11 => ?_) (fun hg11 J11 => ?_) ?_
      ·refine VL_pure 13 [76, 77] [(76, .bool true), (77, .pointer (some ⟨b1, 5, none⟩))] (by kernel_rfl) rfl ?_
       refine VL_load (d := 78) (t := 3) (a := ⟨b1, 5, none⟩) (v := .int .i64 c.least) (by kernel_rfl) (by kernel_rfl) (Loads.own1 ho1 (by kernel_rfl) (by rfl)) ?_
       refine VL_pure 16 [80] [(80, .bool (c.least == 0))] (by kernel_rfl) rfl ?_
       exact VL_eq _ (by simp only [hg11, Bool.true_and, Bool.false_and, Bool.true_or, Bool.false_or, Bool.not_true, Bool.not_false]) J11
      ·refine VL_pure 16 [80] [(80, .bool false)] (by kernel_rfl) rfl ?_
       exact VL_eq _ (by simp only [hg11, Bool.true_and, Bool.false_and, Bool.true_or, Bool.false_or, Bool.not_true, Bool.not_false]) J11
      refine VL_pure 17 [3] [(3, .bool (((((spanB c.peak 1) && (spanB c.early 0)) && (c.whole == 0)) && (c.burst == 0)) && (c.least == 0)))] (by kernel_rfl) rfl ?_
      refine VL_end (by kernel_rfl) ?_
      refine VQ_block_normal ?_
      refine VQ_next ?_
      refine VC_seq ?_
      refine VC_seq ?_
      have hE : (((((spanB c.peak 1) && (spanB c.early 0)) && (c.whole == 0)) && (c.burst == 0)) && (c.least == 0)) = (rightC c == 0) := right_cbr (by omega)
      refine VC_eqL [(3, .bool ((rightC c) == 0))] (by rw [hE]) ?_
      refine VC_region ?_
      refine VL_pure 2 [82] [(82, .bool (!((rightC c) == 0)))] (by kernel_rfl) rfl ?_
      refine VL_end (by kernel_rfl) ?_
      refine VQ_next ?_
      refine VC_cond (!((rightC c) == 0)) (by kernel_rfl) (fun h8 => ?_) (fun h8 => ?_)
      ·try simp only [Bool.and_eq_true, Bool.or_eq_true, decide_eq_true_eq, Bool.not_eq_true', decide_eq_false_iff_not, Bool.and_eq_false_iff, Bool.or_eq_false_iff, beq_iff_eq, bne_iff_ne, beq_eq_false_iff_ne, bne_eq_false_iff_eq, Bool.not_eq_eq_eq_not, Bool.not_true, Bool.not_false] at h8
       refine VC_seq ?_
       refine VC_region ?_
       refine VL_pure 1 [2] [(2, .int .i64 11)] (by kernel_rfl) rfl ?_
       refine VL_end (by kernel_rfl) ?_
       refine VQ_next ?_
       refine VC_ret ?_
       refine VQ_then_ret ?_
       refine VQ_ret1 (.int .i64 11) (.inr rfl) rfl rfl ?_
       exact ⟨congrArg (Value.int .i64) (by first | exact Eq.symm (by assumption) | exact right11 (by omega) (by omega) (by assumption) | exact right12 (by omega)), hS⟩
      ·try simp only [Bool.and_eq_true, Bool.or_eq_true, decide_eq_true_eq, Bool.not_eq_true', decide_eq_false_iff_not, Bool.and_eq_false_iff, Bool.or_eq_false_iff, beq_iff_eq, bne_iff_ne, beq_eq_false_iff_ne, bne_eq_false_iff_eq, Bool.not_eq_eq_eq_not, Bool.not_true, Bool.not_false] at h8
       refine VC_skip ?_
       refine VQ_next ?_
       refine VC_seq ?_
       refine VC_region ?_
       refine VL_pure 1 [2] [(2, .int .i64 0)] (by kernel_rfl) rfl ?_
       refine VL_end (by kernel_rfl) ?_
       refine VQ_next ?_
       refine VC_ret ?_
       refine VQ_ret1 (.int .i64 0) (.inr rfl) rfl rfl ?_
       exact ⟨congrArg (Value.int .i64) (by first | exact Eq.symm (by assumption) | exact right11 (by omega) (by omega) (by assumption) | exact right12 (by omega)), hS⟩
     ·refine VC_seq ?_
      refine VC_region ?_
      refine VL_pure 1 [2] [(2, .int .i64 12)] (by kernel_rfl) rfl ?_
      refine VL_end (by kernel_rfl) ?_
      refine VQ_next ?_
      refine VC_ret ?_
      refine VQ_block_ret ?_
      refine VQ_then_ret ?_
      refine VQ_ret1 (.int .i64 12) (.inr rfl) rfl rfl ?_
      exact ⟨congrArg (Value.int .i64) (by first | exact Eq.symm (by assumption) | exact right11 (by omega) (by omega) (by assumption) | exact right12 (by omega)), hS⟩
    ·refine VC_seq ?_
     refine VC_region ?_
     refine VL_pure 2 [1, 3, 13, 61] [(1, .pointer (some ⟨b1, 0, none⟩)), (3, .bool ((spanB c.peak 1) && (spanB c.early 0))), (13, .int .i64 c.kind), (61, .bool (c.kind == 6))] (by kernel_rfl) rfl ?_
     refine VL_end (by kernel_rfl) ?_
     refine VQ_next ?_
     refine VC_eq c.kind 6 (by kernel_rfl) (fun h9 => ?_) (fun h9 => ?_)
     ·refine VC_skip ?_
      refine VQ_next ?_
      refine VC_eq c.kind 6 (by kernel_rfl) (fun h10 => ?_) (fun h10 => ?_)
      ·refine VC_region ?_
       refine VL_pure 2 [1, 66] [(1, .pointer (some ⟨b1, 0, none⟩)), (66, .bool ((spanB c.peak 1) && (spanB c.early 0)))] (by kernel_rfl) rfl ?_
       refine VL_join ((spanB c.peak 1) && (spanB c.early 0)) (fun bV => [(1, .pointer (some ⟨b1, 0, none⟩)), (66, .bool bV)]) 6 [(1, .pointer (some ⟨b1, 0, none⟩)), (70, .bool (((spanB c.peak 1) && (spanB c.early 0)) && (c.whole == 0)))] rfl (fun hg12 J12 => ?_) (fun hg12 J12 => ?_) ?_
       ·refine VL_pure 3 [1, 66, 67] [(1, .pointer (some ⟨b1, 0, none⟩)), (66, .bool true), (67, .pointer (some ⟨b1, 3, none⟩))] (by kernel_rfl) rfl ?_
        refine VL_load (d := 68) (t := 3) (a := ⟨b1, 3, none⟩) (v := .int .i64 c.whole) (by kernel_rfl) (by kernel_rfl) (Loads.own1 ho1 (by kernel_rfl) (by rfl)) ?_
        refine VL_pure 6 [1, 70] [(1, .pointer (some ⟨b1, 0, none⟩)), (70, .bool (c.whole == 0))] (by kernel_rfl) rfl ?_
        exact VL_eq _ (by simp only [hg12, Bool.true_and, Bool.false_and, Bool.true_or, Bool.false_or, Bool.not_true, Bool.not_false]) J12
       ·refine VL_pure 6 [1, 70] [(1, .pointer (some ⟨b1, 0, none⟩)), (70, .bool false)] (by kernel_rfl) rfl ?_
        exact VL_eq _ (by simp only [hg12, Bool.true_and, Bool.false_and, Bool.true_or, Bool.false_or, Bool.not_true, Bool.not_false]) J12
       refine VL_pure 7 [1, 71] [(1, .pointer (some ⟨b1, 0, none⟩)), (71, .bool (((spanB c.peak 1) && (spanB c.early 0)) && (c.whole == 0)))] (by kernel_rfl) rfl ?_
       refine VL_join (((spanB c.peak 1) && (spanB c.early 0)) && (c.whole == 0)) (fun bV => [(1, .pointer (some ⟨b1, 0, none⟩)), (71, .bool bV)]) 11 [(1, .pointer (some ⟨b1, 0, none⟩)), (75, .bool ((((spanB c.peak 1) && (spanB c.early 0)) && (c.whole == 0)) && (c.burst == 0)))] rfl (fun hg13 J13 => ?_) (fun hg13 J13 => ?_) ?_
       ·refine VL_pure 8 [1, 71, 72] [(1, .pointer (some ⟨b1, 0, none⟩)), (71, .bool true), (72, .pointer (some ⟨b1, 4, none⟩))] (by kernel_rfl) rfl ?_
        refine VL_load (d := 73) (t := 3) (a := ⟨b1, 4, none⟩) (v := .int .i64 c.burst) (by kernel_rfl) (by kernel_rfl) (Loads.own1 ho1 (by kernel_rfl) (by rfl)) ?_
        refine VL_pure 11 [1, 75] [(1, .pointer (some ⟨b1, 0, none⟩)), (75, .bool (c.burst == 0))] (by kernel_rfl) rfl ?_
        exact VL_eq _ (by simp only [hg13, Bool.true_and, Bool.false_and, Bool.true_or, Bool.false_or, Bool.not_true, Bool.not_false]) J13
       ·refine VL_pure 11 [1, 75] [(1, .pointer (some ⟨b1, 0, none⟩)), (75, .bool false)] (by kernel_rfl) rfl ?_
        exact VL_eq _ (by simp only [hg13, Bool.true_and, Bool.false_and, Bool.true_or, Bool.false_or, Bool.not_true, Bool.not_false]) J13
       refine VL_pure 12 [1, 76] [(1, .pointer (some ⟨b1, 0, none⟩)), (76, .bool ((((spanB c.peak 1) && (spanB c.early 0)) && (c.whole == 0)) && (c.burst == 0)))] (by kernel_rfl) rfl ?_
       refine VL_join ((((spanB c.peak 1) && (spanB c.early 0)) && (c.whole == 0)) && (c.burst == 0)) (fun bV => [(1, .pointer (some ⟨b1, 0, none⟩)), (76, .bool bV)]) 16 [(80, .bool (((((spanB c.peak 1) && (spanB c.early 0)) && (c.whole == 0)) && (c.burst == 0)) && (c.least == 0)))] rfl (fun hg14 J14 => ?_) (fun hg14 J14 => ?_) ?_
       ·refine VL_pure 13 [76, 77] [(76, .bool true), (77, .pointer (some ⟨b1, 5, none⟩))] (by kernel_rfl) rfl ?_
        refine VL_load (d := 78) (t := 3) (a := ⟨b1, 5, none⟩) (v := .int .i64 c.least) (by kernel_rfl) (by kernel_rfl) (Loads.own1 ho1 (by kernel_rfl) (by rfl)) ?_
        refine VL_pure 16 [80] [(80, .bool (c.least == 0))] (by kernel_rfl) rfl ?_
        exact VL_eq _ (by simp only [hg14, Bool.true_and, Bool.false_and, Bool.true_or, Bool.false_or, Bool.not_true, Bool.not_false]) J14
       ·refine VL_pure 16 [80] [(80, .bool false)] (by kernel_rfl) rfl ?_
        exact VL_eq _ (by simp only [hg14, Bool.true_and, Bool.false_and, Bool.true_or, Bool.false_or, Bool.not_true, Bool.not_false]) J14
       refine VL_pure 17 [3] [(3, .bool (((((spanB c.peak 1) && (spanB c.early 0)) && (c.whole == 0)) && (c.burst == 0)) && (c.least == 0)))] (by kernel_rfl) rfl ?_
       refine VL_end (by kernel_rfl) ?_
       refine VQ_block_normal ?_
       refine VQ_next ?_
       refine VC_seq ?_
       refine VC_seq ?_
       have hE : (((((spanB c.peak 1) && (spanB c.early 0)) && (c.whole == 0)) && (c.burst == 0)) && (c.least == 0)) = (rightC c == 0) := right_cbr (by omega)
       refine VC_eqL [(3, .bool ((rightC c) == 0))] (by rw [hE]) ?_
       refine VC_region ?_
       refine VL_pure 2 [82] [(82, .bool (!((rightC c) == 0)))] (by kernel_rfl) rfl ?_
       refine VL_end (by kernel_rfl) ?_
       refine VQ_next ?_
       refine VC_cond (!((rightC c) == 0)) (by kernel_rfl) (fun h11 => ?_) (fun h11 => ?_)
       ·try simp only [Bool.and_eq_true, Bool.or_eq_true, decide_eq_true_eq, Bool.not_eq_true', decide_eq_false_iff_not, Bool.and_eq_false_iff, Bool.or_eq_false_iff, beq_iff_eq, bne_iff_ne, beq_eq_false_iff_ne, bne_eq_false_iff_eq, Bool.not_eq_eq_eq_not, Bool.not_true, Bool.not_false] at h11
        refine VC_seq ?_
        refine VC_region ?_
        refine VL_pure 1 [2] [(2, .int .i64 11)] (by kernel_rfl) rfl ?_
        refine VL_end (by kernel_rfl) ?_
        refine VQ_next ?_
        refine VC_ret ?_
        refine VQ_then_ret ?_
        refine VQ_ret1 (.int .i64 11) (.inr rfl) rfl rfl ?_
        exact ⟨congrArg (Value.int .i64) (by first | exact Eq.symm (by assumption) | exact right11 (by omega) (by omega) (by assumption) | exact right12 (by omega)), hS⟩
       ·try simp only [Bool.and_eq_true, Bool.or_eq_true, decide_eq_true_eq, Bool.not_eq_true', decide_eq_false_iff_not, Bool.and_eq_false_iff, Bool.or_eq_false_iff, beq_iff_eq, bne_iff_ne, beq_eq_false_iff_ne, bne_eq_false_iff_eq, Bool.not_eq_eq_eq_not, Bool.not_true, Bool.not_false] at h11
        refine VC_skip ?_
        refine VQ_next ?_
        refine VC_seq ?_
        refine VC_region ?_
        refine VL_pure 1 [2] [(2, .int .i64 0)] (by kernel_rfl) rfl ?_
        refine VL_end (by kernel_rfl) ?_
        refine VQ_next ?_
        refine VC_ret ?_
        refine VQ_ret1 (.int .i64 0) (.inr rfl) rfl rfl ?_
        exact ⟨congrArg (Value.int .i64) (by first | exact Eq.symm (by assumption) | exact right11 (by omega) (by omega) (by assumption) | exact right12 (by omega)), hS⟩
      ·refine VC_seq ?_
       refine VC_region ?_
       refine VL_pure 1 [2] [(2, .int .i64 12)] (by kernel_rfl) rfl ?_
       refine VL_end (by kernel_rfl) ?_
       refine VQ_next ?_
       refine VC_ret ?_
       refine VQ_block_ret ?_
       refine VQ_then_ret ?_
       refine VQ_ret1 (.int .i64 12) (.inr rfl) rfl rfl ?_
       exact ⟨congrArg (Value.int .i64) (by first | exact Eq.symm (by assumption) | exact right11 (by omega) (by omega) (by assumption) | exact right12 (by omega)), hS⟩
     ·refine VC_region ?_
      refine VL_pure 2 [1, 3, 61] [(1, .pointer (some ⟨b1, 0, none⟩)), (3, .bool ((spanB c.peak 1) && (spanB c.early 0))), (61, .bool (c.kind == 7))] (by kernel_rfl) rfl ?_
      refine VL_end (by kernel_rfl) ?_
      refine VQ_next ?_
      refine VC_eq c.kind 7 (by kernel_rfl) (fun h12 => ?_) (fun h12 => ?_)
      ·refine VC_region ?_
       refine VL_pure 2 [1, 66] [(1, .pointer (some ⟨b1, 0, none⟩)), (66, .bool ((spanB c.peak 1) && (spanB c.early 0)))] (by kernel_rfl) rfl ?_
       refine VL_join ((spanB c.peak 1) && (spanB c.early 0)) (fun bV => [(1, .pointer (some ⟨b1, 0, none⟩)), (66, .bool bV)]) 6 [(1, .pointer (some ⟨b1, 0, none⟩)), (70, .bool (((spanB c.peak 1) && (spanB c.early 0)) && (c.whole == 0)))] rfl (fun hg15 J15 => ?_) (fun hg15 J15 => ?_) ?_
       ·refine VL_pure 3 [1, 66, 67] [(1, .pointer (some ⟨b1, 0, none⟩)), (66, .bool true), (67, .pointer (some ⟨b1, 3, none⟩))] (by kernel_rfl) rfl ?_
        refine VL_load (d := 68) (t := 3) (a := ⟨b1, 3, none⟩) (v := .int .i64 c.whole) (by kernel_rfl) (by kernel_rfl) (Loads.own1 ho1 (by kernel_rfl) (by rfl)) ?_
        refine VL_pure 6 [1, 70] [(1, .pointer (some ⟨b1, 0, none⟩)), (70, .bool (c.whole == 0))] (by kernel_rfl) rfl ?_
        exact VL_eq _ (by simp only [hg15, Bool.true_and, Bool.false_and, Bool.true_or, Bool.false_or, Bool.not_true, Bool.not_false]) J15
       ·refine VL_pure 6 [1, 70] [(1, .pointer (some ⟨b1, 0, none⟩)), (70, .bool false)] (by kernel_rfl) rfl ?_
        exact VL_eq _ (by simp only [hg15, Bool.true_and, Bool.false_and, Bool.true_or, Bool.false_or, Bool.not_true, Bool.not_false]) J15
       refine VL_pure 7 [1, 71] [(1, .pointer (some ⟨b1, 0, none⟩)), (71, .bool (((spanB c.peak 1) && (spanB c.early 0)) && (c.whole == 0)))] (by kernel_rfl) rfl ?_
       refine VL_join (((spanB c.peak 1) && (spanB c.early 0)) && (c.whole == 0)) (fun bV => [(1, .pointer (some ⟨b1, 0, none⟩)), (71, .bool bV)]) 11 [(1, .pointer (some ⟨b1, 0, none⟩)), (75, .bool ((((spanB c.peak 1) && (spanB c.early 0)) && (c.whole == 0)) && (c.burst == 0)))] rfl (fun hg16 J16 => ?_) (fun hg16 J16 => ?_) ?_
       ·refine VL_pure 8 [1, 71, 72] [(1, .pointer (some ⟨b1, 0, none⟩)), (71, .bool true), (72, .pointer (some ⟨b1, 4, none⟩))] (by kernel_rfl) rfl ?_
        refine VL_load (d := 73) (t := 3) (a := ⟨b1, 4, none⟩) (v := .int .i64 c.burst) (by kernel_rfl) (by kernel_rfl) (Loads.own1 ho1 (by kernel_rfl) (by rfl)) ?_
        refine VL_pure 11 [1, 75] [(1, .pointer (some ⟨b1, 0, none⟩)), (75, .bool (c.burst == 0))] (by kernel_rfl) rfl ?_
        exact VL_eq _ (by simp only [hg16, Bool.true_and, Bool.false_and, Bool.true_or, Bool.false_or, Bool.not_true, Bool.not_false]) J16
       ·refine VL_pure 11 [1, 75] [(1, .pointer (some ⟨b1, 0, none⟩)), (75, .bool false)] (by kernel_rfl) rfl ?_
        exact VL_eq _ (by simp only [hg16, Bool.true_and, Bool.false_and, Bool.true_or, Bool.false_or, Bool.not_true, Bool.not_false]) J16
       refine VL_pure 12 [1, 76] [(1, .pointer (some ⟨b1, 0, none⟩)), (76, .bool ((((spanB c.peak 1) && (spanB c.early 0)) && (c.whole == 0)) && (c.burst == 0)))] (by kernel_rfl) rfl ?_
       refine VL_join ((((spanB c.peak 1) && (spanB c.early 0)) && (c.whole == 0)) && (c.burst == 0)) (fun bV => [(1, .pointer (some ⟨b1, 0, none⟩)), (76, .bool bV)]) 16 [(80, .bool (((((spanB c.peak 1) && (spanB c.early 0)) && (c.whole == 0)) && (c.burst == 0)) && (c.least == 0)))] rfl (fun hg17 J17 => ?_) (fun hg17 J17 => ?_) ?_
       ·refine VL_pure 13 [76, 77] [(76, .bool true), (77, .pointer (some ⟨b1, 5, none⟩))] (by kernel_rfl) rfl ?_
        refine VL_load (d := 78) (t := 3) (a := ⟨b1, 5, none⟩) (v := .int .i64 c.least) (by kernel_rfl) (by kernel_rfl) (Loads.own1 ho1 (by kernel_rfl) (by rfl)) ?_
        refine VL_pure 16 [80] [(80, .bool (c.least == 0))] (by kernel_rfl) rfl ?_
        exact VL_eq _ (by simp only [hg17, Bool.true_and, Bool.false_and, Bool.true_or, Bool.false_or, Bool.not_true, Bool.not_false]) J17
       ·refine VL_pure 16 [80] [(80, .bool false)] (by kernel_rfl) rfl ?_
        exact VL_eq _ (by simp only [hg17, Bool.true_and, Bool.false_and, Bool.true_or, Bool.false_or, Bool.not_true, Bool.not_false]) J17
       refine VL_pure 17 [3] [(3, .bool (((((spanB c.peak 1) && (spanB c.early 0)) && (c.whole == 0)) && (c.burst == 0)) && (c.least == 0)))] (by kernel_rfl) rfl ?_
       refine VL_end (by kernel_rfl) ?_
       refine VQ_block_normal ?_
       refine VQ_next ?_
       refine VC_seq ?_
       refine VC_seq ?_
       have hE : (((((spanB c.peak 1) && (spanB c.early 0)) && (c.whole == 0)) && (c.burst == 0)) && (c.least == 0)) = (rightC c == 0) := right_cbr (by omega)
       refine VC_eqL [(3, .bool ((rightC c) == 0))] (by rw [hE]) ?_
       refine VC_region ?_
       refine VL_pure 2 [82] [(82, .bool (!((rightC c) == 0)))] (by kernel_rfl) rfl ?_
       refine VL_end (by kernel_rfl) ?_
       refine VQ_next ?_
       refine VC_cond (!((rightC c) == 0)) (by kernel_rfl) (fun h13 => ?_) (fun h13 => ?_)
       ·try simp only [Bool.and_eq_true, Bool.or_eq_true, decide_eq_true_eq, Bool.not_eq_true', decide_eq_false_iff_not, Bool.and_eq_false_iff, Bool.or_eq_false_iff, beq_iff_eq, bne_iff_ne, beq_eq_false_iff_ne, bne_eq_false_iff_eq, Bool.not_eq_eq_eq_not, Bool.not_true, Bool.not_false] at h13
        refine VC_seq ?_
        refine VC_region ?_
        refine VL_pure 1 [2] [(2, .int .i64 11)] (by kernel_rfl) rfl ?_
        refine VL_end (by kernel_rfl) ?_
        refine VQ_next ?_
        refine VC_ret ?_
        refine VQ_then_ret ?_
        refine VQ_ret1 (.int .i64 11) (.inr rfl) rfl rfl ?_
        exact ⟨congrArg (Value.int .i64) (by first | exact Eq.symm (by assumption) | exact right11 (by omega) (by omega) (by assumption) | exact right12 (by omega)), hS⟩
       ·try simp only [Bool.and_eq_true, Bool.or_eq_true, decide_eq_true_eq, Bool.not_eq_true', decide_eq_false_iff_not, Bool.and_eq_false_iff, Bool.or_eq_false_iff, beq_iff_eq, bne_iff_ne, beq_eq_false_iff_ne, bne_eq_false_iff_eq, Bool.not_eq_eq_eq_not, Bool.not_true, Bool.not_false] at h13
        refine VC_skip ?_
        refine VQ_next ?_
        refine VC_seq ?_
        refine VC_region ?_
        refine VL_pure 1 [2] [(2, .int .i64 0)] (by kernel_rfl) rfl ?_
        refine VL_end (by kernel_rfl) ?_
        refine VQ_next ?_
        refine VC_ret ?_
        refine VQ_ret1 (.int .i64 0) (.inr rfl) rfl rfl ?_
        exact ⟨congrArg (Value.int .i64) (by first | exact Eq.symm (by assumption) | exact right11 (by omega) (by omega) (by assumption) | exact right12 (by omega)), hS⟩
      ·refine VC_seq ?_
       refine VC_region ?_
       refine VL_pure 1 [2] [(2, .int .i64 12)] (by kernel_rfl) rfl ?_
       refine VL_end (by kernel_rfl) ?_
       refine VQ_next ?_
       refine VC_ret ?_
       refine VQ_block_ret ?_
       refine VQ_then_ret ?_
       refine VQ_ret1 (.int .i64 12) (.inr rfl) rfl rfl ?_
       exact ⟨congrArg (Value.int .i64) (by first | exact Eq.symm (by assumption) | exact right11 (by omega) (by omega) (by assumption) | exact right12 (by omega)), hS⟩
 ·refine VC_seq ?_
  refine VC_region ?_
  refine VL_pure 2 [1, 3, 13, 14] [(1, .pointer (some ⟨b1, 0, none⟩)), (3, .bool ((spanB c.peak 1) && (spanB c.early 0))), (13, .int .i64 c.kind), (14, .bool (c.kind == 3))] (by kernel_rfl) rfl ?_
  refine VL_end (by kernel_rfl) ?_
  refine VQ_next ?_
  refine VC_eq c.kind 3 (by kernel_rfl) (fun h14 => ?_) (fun h14 => ?_)
  ·refine VC_skip ?_
   refine VQ_next ?_
   refine VC_eq c.kind 3 (by kernel_rfl) (fun h15 => ?_) (fun h15 => ?_)
   ·refine VC_region ?_
    refine VL_pure 2 [1, 19] [(1, .pointer (some ⟨b1, 0, none⟩)), (19, .bool ((spanB c.peak 1) && (spanB c.early 0)))] (by kernel_rfl) rfl ?_
    refine VL_join ((spanB c.peak 1) && (spanB c.early 0)) (fun bV => [(1, .pointer (some ⟨b1, 0, none⟩)), (19, .bool bV)]) 8 [(1, .pointer (some ⟨b1, 0, none⟩)), (25, .bool (((spanB c.peak 1) && (spanB c.early 0)) && (spanB c.whole c.peak)))] rfl (fun hg18 J18 => ?_) (fun hg18 J18 => ?_) ?_
    ·refine VL_pure 3 [1, 19, 20] [(1, .pointer (some ⟨b1, 0, none⟩)), (19, .bool true), (20, .pointer (some ⟨b1, 3, none⟩))] (by kernel_rfl) rfl ?_
     refine VL_load (d := 21) (t := 3) (a := ⟨b1, 3, none⟩) (v := .int .i64 c.whole) (by kernel_rfl) (by kernel_rfl) (Loads.own1 ho1 (by kernel_rfl) (by rfl)) ?_
     refine VL_pure 5 [1, 19, 21, 22] [(1, .pointer (some ⟨b1, 0, none⟩)), (19, .bool true), (21, .int .i64 c.whole), (22, .pointer (some ⟨b1, 1, none⟩))] (by kernel_rfl) rfl ?_
     refine VL_load (d := 23) (t := 3) (a := ⟨b1, 1, none⟩) (v := .int .i64 c.peak) (by kernel_rfl) (by kernel_rfl) (Loads.own1 ho1 (by kernel_rfl) (by rfl)) ?_
     have hzs7 := hS.size
     have hzl6 := ho1.lt
     refine VL_call (d := 24) (f := 28) (args := #[.int .i64 c.whole, .int .i64 c.peak]) (by kernel_rfl) (by kernel_rfl) (by kernel_rfl) Try.call28 ((span_ce c.whole c.peak) w1) ?_
     rintro _ w7 ⟨rfl, hc6⟩
     subst w7
     refine VL_pure 8 [1, 25] [(1, .pointer (some ⟨b1, 0, none⟩)), (25, .bool (spanB c.whole c.peak))] (by kernel_rfl) rfl ?_
     exact VL_eq _ (by simp only [hg18, Bool.true_and, Bool.false_and, Bool.true_or, Bool.false_or, Bool.not_true, Bool.not_false]) J18
    ·refine VL_pure 8 [1, 25] [(1, .pointer (some ⟨b1, 0, none⟩)), (25, .bool false)] (by kernel_rfl) rfl ?_
     exact VL_eq _ (by simp only [hg18, Bool.true_and, Bool.false_and, Bool.true_or, Bool.false_or, Bool.not_true, Bool.not_false]) J18
    refine VL_pure 9 [1, 26] [(1, .pointer (some ⟨b1, 0, none⟩)), (26, .bool (((spanB c.peak 1) && (spanB c.early 0)) && (spanB c.whole c.peak)))] (by kernel_rfl) rfl ?_
    refine VL_join (((spanB c.peak 1) && (spanB c.early 0)) && (spanB c.whole c.peak)) (fun bV => [(1, .pointer (some ⟨b1, 0, none⟩)), (26, .bool bV)]) 13 [(1, .pointer (some ⟨b1, 0, none⟩)), (30, .bool ((((spanB c.peak 1) && (spanB c.early 0)) && (spanB c.whole c.peak)) && (spanB c.burst 0)))] rfl (fun hg19 J19 => ?_) (fun hg19 J19 => ?_) ?_
    ·refine VL_pure 10 [1, 26, 27] [(1, .pointer (some ⟨b1, 0, none⟩)), (26, .bool true), (27, .pointer (some ⟨b1, 4, none⟩))] (by kernel_rfl) rfl ?_
     refine VL_load (d := 28) (t := 3) (a := ⟨b1, 4, none⟩) (v := .int .i64 c.burst) (by kernel_rfl) (by kernel_rfl) (Loads.own1 ho1 (by kernel_rfl) (by rfl)) ?_
     have hzs8 := hS.size
     have hzl7 := ho1.lt
     refine VL_call (d := 29) (f := 28) (args := #[.int .i64 c.burst, .int .i64 0]) (by kernel_rfl) (by kernel_rfl) (by kernel_rfl) Try.call28 ((span_ce c.burst 0) w1) ?_
     rintro _ w8 ⟨rfl, hc7⟩
     subst w8
     refine VL_pure 13 [1, 30] [(1, .pointer (some ⟨b1, 0, none⟩)), (30, .bool (spanB c.burst 0))] (by kernel_rfl) rfl ?_
     exact VL_eq _ (by simp only [hg19, Bool.true_and, Bool.false_and, Bool.true_or, Bool.false_or, Bool.not_true, Bool.not_false]) J19
    ·refine VL_pure 13 [1, 30] [(1, .pointer (some ⟨b1, 0, none⟩)), (30, .bool false)] (by kernel_rfl) rfl ?_
     exact VL_eq _ (by simp only [hg19, Bool.true_and, Bool.false_and, Bool.true_or, Bool.false_or, Bool.not_true, Bool.not_false]) J19
    refine VL_pure 14 [1, 31] [(1, .pointer (some ⟨b1, 0, none⟩)), (31, .bool ((((spanB c.peak 1) && (spanB c.early 0)) && (spanB c.whole c.peak)) && (spanB c.burst 0)))] (by kernel_rfl) rfl ?_
    refine VL_join ((((spanB c.peak 1) && (spanB c.early 0)) && (spanB c.whole c.peak)) && (spanB c.burst 0)) (fun bV => [(1, .pointer (some ⟨b1, 0, none⟩)), (31, .bool bV)]) 18 [(35, .bool (((((spanB c.peak 1) && (spanB c.early 0)) && (spanB c.whole c.peak)) && (spanB c.burst 0)) && (c.least == 0)))] rfl (fun hg20 J20 => ?_) (fun hg20 J20 => ?_) ?_
    ·refine VL_pure 15 [31, 32] [(31, .bool true), (32, .pointer (some ⟨b1, 5, none⟩))] (by kernel_rfl) rfl ?_
     refine VL_load (d := 33) (t := 3) (a := ⟨b1, 5, none⟩) (v := .int .i64 c.least) (by kernel_rfl) (by kernel_rfl) (Loads.own1 ho1 (by kernel_rfl) (by rfl)) ?_
     refine VL_pure 18 [35] [(35, .bool (c.least == 0))] (by kernel_rfl) rfl ?_
     exact VL_eq _ (by simp only [hg20, Bool.true_and, Bool.false_and, Bool.true_or, Bool.false_or, Bool.not_true, Bool.not_false]) J20
    ·refine VL_pure 18 [35] [(35, .bool false)] (by kernel_rfl) rfl ?_
     exact VL_eq _ (by simp only [hg20, Bool.true_and, Bool.false_and, Bool.true_or, Bool.false_or, Bool.not_true, Bool.not_false]) J20
    refine VL_pure 19 [3] [(3, .bool (((((spanB c.peak 1) && (spanB c.early 0)) && (spanB c.whole c.peak)) && (spanB c.burst 0)) && (c.least == 0)))] (by kernel_rfl) rfl ?_
    refine VL_end (by kernel_rfl) ?_
    refine VQ_block_normal ?_
    refine VQ_next ?_
    refine VC_seq ?_
    refine VC_seq ?_
    have hE : (((((spanB c.peak 1) && (spanB c.early 0)) && (spanB c.whole c.peak)) && (spanB c.burst 0)) && (c.least == 0)) = (rightC c == 0) := right_vbr (by omega)
    refine VC_eqL [(3, .bool ((rightC c) == 0))] (by rw [hE]) ?_
    refine VC_region ?_
    refine VL_pure 2 [82] [(82, .bool (!((rightC c) == 0)))] (by kernel_rfl) rfl ?_
    refine VL_end (by kernel_rfl) ?_
    refine VQ_next ?_
    refine VC_cond (!((rightC c) == 0)) (by kernel_rfl) (fun h16 => ?_) (fun h16 => ?_)
    ·try simp only [Bool.and_eq_true, Bool.or_eq_true, decide_eq_true_eq, Bool.not_eq_true', decide_eq_false_iff_not, Bool.and_eq_false_iff, Bool.or_eq_false_iff, beq_iff_eq, bne_iff_ne, beq_eq_false_iff_ne, bne_eq_false_iff_eq, Bool.not_eq_eq_eq_not, Bool.not_true, Bool.not_false] at h16
     refine VC_seq ?_
     refine VC_region ?_
     refine VL_pure 1 [2] [(2, .int .i64 11)] (by kernel_rfl) rfl ?_
     refine VL_end (by kernel_rfl) ?_
     refine VQ_next ?_
     refine VC_ret ?_
     refine VQ_then_ret ?_
     refine VQ_ret1 (.int .i64 11) (.inr rfl) rfl rfl ?_
     exact ⟨congrArg (Value.int .i64) (by first | exact Eq.symm (by assumption) | exact right11 (by omega) (by omega) (by assumption) | exact right12 (by omega)), hS⟩
    ·try simp only [Bool.and_eq_true, Bool.or_eq_true, decide_eq_true_eq, Bool.not_eq_true', decide_eq_false_iff_not, Bool.and_eq_false_iff, Bool.or_eq_false_iff, beq_iff_eq, bne_iff_ne, beq_eq_false_iff_ne, bne_eq_false_iff_eq, Bool.not_eq_eq_eq_not, Bool.not_true, Bool.not_false] at h16
     refine VC_skip ?_
     refine VQ_next ?_
     refine VC_seq ?_
     refine VC_region ?_
     refine VL_pure 1 [2] [(2, .int .i64 0)] (by kernel_rfl) rfl ?_
     refine VL_end (by kernel_rfl) ?_
     refine VQ_next ?_
     refine VC_ret ?_
     refine VQ_ret1 (.int .i64 0) (.inr rfl) rfl rfl ?_
     exact ⟨congrArg (Value.int .i64) (by first | exact Eq.symm (by assumption) | exact right11 (by omega) (by omega) (by assumption) | exact right12 (by omega)), hS⟩
   ·refine VC_seq ?_
    refine VC_region ?_
    refine VL_pure 2 [1, 3, 13, 36] [(1, .pointer (some ⟨b1, 0, none⟩)), (3, .bool ((spanB c.peak 1) && (spanB c.early 0))), (13, .int .i64 c.kind), (36, .bool (c.kind == 5))] (by kernel_rfl) rfl ?_
    refine VL_end (by kernel_rfl) ?_
    refine VQ_next ?_
    refine VC_eq c.kind 5 (by kernel_rfl) (fun h17 => ?_) (fun h17 => ?_)
    ·refine VC_region ?_
     refine VL_pure 2 [1, 39] [(1, .pointer (some ⟨b1, 0, none⟩)), (39, .bool ((spanB c.peak 1) && (spanB c.early 0)))] (by kernel_rfl) rfl ?_
     refine VL_join ((spanB c.peak 1) && (spanB c.early 0)) (fun bV => [(1, .pointer (some ⟨b1, 0, none⟩)), (39, .bool bV)]) 6 [(1, .pointer (some ⟨b1, 0, none⟩)), (43, .bool (((spanB c.peak 1) && (spanB c.early 0)) && (c.whole == 0)))] rfl (fun hg21 J21 => ?_) (fun hg21 J21 => ?_) ?_
     ·refine VL_pure 3 [1, 39, 40] [(1, .pointer (some ⟨b1, 0, none⟩)), (39, .bool true), (40, .pointer (some ⟨b1, 3, none⟩))] (by kernel_rfl) rfl ?_
      refine VL_load (d := 41) (t := 3) (a := ⟨b1, 3, none⟩) (v := .int .i64 c.whole) (by kernel_rfl) (by kernel_rfl) (Loads.own1 ho1 (by kernel_rfl) (by rfl)) ?_
      refine VL_pure 6 [1, 43] [(1, .pointer (some ⟨b1, 0, none⟩)), (43, .bool (c.whole == 0))] (by kernel_rfl) rfl ?_
      exact VL_eq _ (by simp only [hg21, Bool.true_and, Bool.false_and, Bool.true_or, Bool.false_or, Bool.not_true, Bool.not_false]) J21
     ·refine VL_pure 6 [1, 43] [(1, .pointer (some ⟨b1, 0, none⟩)), (43, .bool false)] (by kernel_rfl) rfl ?_
      exact VL_eq _ (by simp only [hg21, Bool.true_and, Bool.false_and, Bool.true_or, Bool.false_or, Bool.not_true, Bool.not_false]) J21
     refine VL_pure 7 [1, 44] [(1, .pointer (some ⟨b1, 0, none⟩)), (44, .bool (((spanB c.peak 1) && (spanB c.early 0)) && (c.whole == 0)))] (by kernel_rfl) rfl ?_
     refine VL_join (((spanB c.peak 1) && (spanB c.early 0)) && (c.whole == 0)) (fun bV => [(1, .pointer (some ⟨b1, 0, none⟩)), (44, .bool bV)]) 11 [(1, .pointer (some ⟨b1, 0, none⟩)), (48, .bool ((((spanB c.peak 1) && (spanB c.early 0)) && (c.whole == 0)) && (c.burst == 0)))] rfl (fun hg22 J22 => ?_) (fun hg22 J22 => ?_) ?_
     ·refine VL_pure 8 [1, 44, 45] [(1, .pointer (some ⟨b1, 0, none⟩)), (44, .bool true), (45, .pointer (some ⟨b1, 4, none⟩))] (by kernel_rfl) rfl ?_
      refine VL_load (d := 46) (t := 3) (a := ⟨b1, 4, none⟩) (v := .int .i64 c.burst) (by kernel_rfl) (by kernel_rfl) (Loads.own1 ho1 (by kernel_rfl) (by rfl)) ?_
      refine VL_pure 11 [1, 48] [(1, .pointer (some ⟨b1, 0, none⟩)), (48, .bool (c.burst == 0))] (by kernel_rfl) rfl ?_
      exact VL_eq _ (by simp only [hg22, Bool.true_and, Bool.false_and, Bool.true_or, Bool.false_or, Bool.not_true, Bool.not_false]) J22
     ·refine VL_pure 11 [1, 48] [(1, .pointer (some ⟨b1, 0, none⟩)), (48, .bool false)] (by kernel_rfl) rfl ?_
      exact VL_eq _ (by simp only [hg22, Bool.true_and, Bool.false_and, Bool.true_or, Bool.false_or, Bool.not_true, Bool.not_false]) J22
     refine VL_pure 12 [1, 49] [(1, .pointer (some ⟨b1, 0, none⟩)), (49, .bool ((((spanB c.peak 1) && (spanB c.early 0)) && (c.whole == 0)) && (c.burst == 0)))] (by kernel_rfl) rfl ?_
     refine VL_join ((((spanB c.peak 1) && (spanB c.early 0)) && (c.whole == 0)) && (c.burst == 0)) (fun bV => [(1, .pointer (some ⟨b1, 0, none⟩)), (49, .bool bV)]) 23 [(60, .bool (((((spanB c.peak 1) && (spanB c.early 0)) && (c.whole == 0)) && (c.burst == 0)) && ((c.least == 0) || (spanB c.least c.peak))))] rfl (fun hg23 J23 => ?_) (fun hg23 J23 => ?_) ?_
     ·refine VL_pure 13 [1, 49, 50] [(1, .pointer (some ⟨b1, 0, none⟩)), (49, .bool true), (50, .pointer (some ⟨b1, 5, none⟩))] (by kernel_rfl) rfl ?_
      refine VL_load (d := 51) (t := 3) (a := ⟨b1, 5, none⟩) (v := .int .i64 c.least) (by kernel_rfl) (by kernel_rfl) (Loads.own1 ho1 (by kernel_rfl) (by rfl)) ?_
      refine VL_pure 16 [1, 49, 53] [(1, .pointer (some ⟨b1, 0, none⟩)), (49, .bool true), (53, .bool (c.least == 0))] (by kernel_rfl) rfl ?_
      refine VL_join (c.least == 0) (fun bV => [(1, .pointer (some ⟨b1, 0, none⟩)), (49, .bool true), (53, .bool bV)]) 22 [(49, .bool true), (59, .bool ((c.least == 0) || (spanB c.least c.peak)))] rfl (fun hg24 J24 => ?_) (fun hg24 J24 => ?_) ?_
      ·refine VL_pure 22 [49, 59] [(49, .bool true), (59, .bool true)] (by kernel_rfl) rfl ?_
       exact VL_eq _ (by simp only [hg24, Bool.true_and, Bool.false_and, Bool.true_or, Bool.false_or, Bool.not_true, Bool.not_false]) J24
      ·refine VL_pure 17 [1, 49, 53, 54] [(1, .pointer (some ⟨b1, 0, none⟩)), (49, .bool true), (53, .bool false), (54, .pointer (some ⟨b1, 5, none⟩))] (by kernel_rfl) rfl ?_
       refine VL_load (d := 55) (t := 3) (a := ⟨b1, 5, none⟩) (v := .int .i64 c.least) (by kernel_rfl) (by kernel_rfl) (Loads.own1 ho1 (by kernel_rfl) (by rfl)) ?_
       refine VL_pure 19 [49, 53, 55, 56] [(49, .bool true), (53, .bool false), (55, .int .i64 c.least), (56, .pointer (some ⟨b1, 1, none⟩))] (by kernel_rfl) rfl ?_
       refine VL_load (d := 57) (t := 3) (a := ⟨b1, 1, none⟩) (v := .int .i64 c.peak) (by kernel_rfl) (by kernel_rfl) (Loads.own1 ho1 (by kernel_rfl) (by rfl)) ?_
       have hzs9 := hS.size
       have hzl8 := ho1.lt
       refine VL_call (d := 58) (f := 28) (args := #[.int .i64 c.least, .int .i64 c.peak]) (by kernel_rfl) (by kernel_rfl) (by kernel_rfl) Try.call28 ((span_ce c.least c.peak) w1) ?_
       rintro _ w9 ⟨rfl, hc8⟩
       subst w9
       refine VL_pure 22 [49, 59] [(49, .bool true), (59, .bool (spanB c.least c.peak))] (by kernel_rfl) rfl ?_
       exact VL_eq _ (by simp only [hg24, Bool.true_and, Bool.false_and, Bool.true_or, Bool.false_or, Bool.not_true, Bool.not_false]) J24
      refine VL_pure 23 [60] [(60, .bool ((c.least == 0) || (spanB c.least c.peak)))] (by kernel_rfl) rfl ?_
      exact VL_eq _ (by simp only [hg23, Bool.true_and, Bool.false_and, Bool.true_or, Bool.false_or, Bool.not_true, Bool.not_false]) J23
     ·refine VL_pure 23 [60] [(60, .bool false)] (by kernel_rfl) rfl ?_
      exact VL_eq _ (by simp only [hg23, Bool.true_and, Bool.false_and, Bool.true_or, Bool.false_or, Bool.not_true, Bool.not_false]) J23
     refine VL_pure 24 [3] [(3, .bool (((((spanB c.peak 1) && (spanB c.early 0)) && (c.whole == 0)) && (c.burst == 0)) && ((c.least == 0) || (spanB c.least c.peak))))] (by kernel_rfl) rfl ?_
     refine VL_end (by kernel_rfl) ?_
     refine VQ_block_normal ?_
     refine VQ_next ?_
     refine VC_seq ?_
     refine VC_seq ?_
     have hE : (((((spanB c.peak 1) && (spanB c.early 0)) && (c.whole == 0)) && (c.burst == 0)) && ((c.least == 0) || (spanB c.least c.peak))) = (rightC c == 0) := right_abr (by omega)
     refine VC_eqL [(3, .bool ((rightC c) == 0))] (by rw [hE]) ?_
     refine VC_region ?_
     refine VL_pure 2 [82] [(82, .bool (!((rightC c) == 0)))] (by kernel_rfl) rfl ?_
     refine VL_end (by kernel_rfl) ?_
     refine VQ_next ?_
     refine VC_cond (!((rightC c) == 0)) (by kernel_rfl) (fun h18 => ?_) (fun h18 => ?_)
     ·try simp only [Bool.and_eq_true, Bool.or_eq_true, decide_eq_true_eq, Bool.not_eq_true', decide_eq_false_iff_not, Bool.and_eq_false_iff, Bool.or_eq_false_iff, beq_iff_eq, bne_iff_ne, beq_eq_false_iff_ne, bne_eq_false_iff_eq, Bool.not_eq_eq_eq_not, Bool.not_true, Bool.not_false] at h18
      refine VC_seq ?_
      refine VC_region ?_
      refine VL_pure 1 [2] [(2, .int .i64 11)] (by kernel_rfl) rfl ?_
      refine VL_end (by kernel_rfl) ?_
      refine VQ_next ?_
      refine VC_ret ?_
      refine VQ_then_ret ?_
      refine VQ_ret1 (.int .i64 11) (.inr rfl) rfl rfl ?_
      exact ⟨congrArg (Value.int .i64) (by first | exact Eq.symm (by assumption) | exact right11 (by omega) (by omega) (by assumption) | exact right12 (by omega)), hS⟩
     ·try simp only [Bool.and_eq_true, Bool.or_eq_true, decide_eq_true_eq, Bool.not_eq_true', decide_eq_false_iff_not, Bool.and_eq_false_iff, Bool.or_eq_false_iff, beq_iff_eq, bne_iff_ne, beq_eq_false_iff_ne, bne_eq_false_iff_eq, Bool.not_eq_eq_eq_not, Bool.not_true, Bool.not_false] at h18
      refine VC_skip ?_
      refine VQ_next ?_
      refine VC_seq ?_
      refine VC_region ?_
      refine VL_pure 1 [2] [(2, .int .i64 0)] (by kernel_rfl) rfl ?_
      refine VL_end (by kernel_rfl) ?_
      refine VQ_next ?_
      refine VC_ret ?_
      refine VQ_ret1 (.int .i64 0) (.inr rfl) rfl rfl ?_
      exact ⟨congrArg (Value.int .i64) (by first | exact Eq.symm (by assumption) | exact right11 (by omega) (by omega) (by assumption) | exact right12 (by omega)), hS⟩
    ·refine VC_seq ?_
     refine VC_seq ?_
     refine VC_region ?_
     refine VL_pure 2 [1, 3, 13, 61] [(1, .pointer (some ⟨b1, 0, none⟩)), (3, .bool ((spanB c.peak 1) && (spanB c.early 0))), (13, .int .i64 c.kind), (61, .bool (c.kind == 1))] (by kernel_rfl) rfl ?_
     refine VL_end (by kernel_rfl) ?_
     refine VQ_next ?_
     refine VC_eq c.kind 1 (by kernel_rfl) (fun h19 => ?_) (fun h19 => ?_)
     ·refine VC_skip ?_
      refine VQ_next ?_
      refine VC_eq c.kind 1 (by kernel_rfl) (fun h20 => ?_) (fun h20 => ?_)
      ·refine VC_region ?_
       refine VL_pure 2 [1, 66] [(1, .pointer (some ⟨b1, 0, none⟩)), (66, .bool ((spanB c.peak 1) && (spanB c.early 0)))] (by kernel_rfl) rfl ?_
       refine VL_join ((spanB c.peak 1) && (spanB c.early 0)) (fun bV => [(1, .pointer (some ⟨b1, 0, none⟩)), (66, .bool bV)]) 6 [(1, .pointer (some ⟨b1, 0, none⟩)), (70, .bool (((spanB c.peak 1) && (spanB c.early 0)) && (c.whole == 0)))] rfl (fun hg25 J25 => ?_) (fun hg25 J25 => ?_) ?_
       ·refine VL_pure 3 [1, 66, 67] [(1, .pointer (some ⟨b1, 0, none⟩)), (66, .bool true), (67, .pointer (some ⟨b1, 3, none⟩))] (by kernel_rfl) rfl ?_
        refine VL_load (d := 68) (t := 3) (a := ⟨b1, 3, none⟩) (v := .int .i64 c.whole) (by kernel_rfl) (by kernel_rfl) (Loads.own1 ho1 (by kernel_rfl) (by rfl)) ?_
        refine VL_pure 6 [1, 70] [(1, .pointer (some ⟨b1, 0, none⟩)), (70, .bool (c.whole == 0))] (by kernel_rfl) rfl ?_
        exact VL_eq _ (by simp only [hg25, Bool.true_and, Bool.false_and, Bool.true_or, Bool.false_or, Bool.not_true, Bool.not_false]) J25
       ·refine VL_pure 6 [1, 70] [(1, .pointer (some ⟨b1, 0, none⟩)), (70, .bool false)] (by kernel_rfl) rfl ?_
        exact VL_eq _ (by simp only [hg25, Bool.true_and, Bool.false_and, Bool.true_or, Bool.false_or, Bool.not_true, Bool.not_false]) J25
       refine VL_pure 7 [1, 71] [(1, .pointer (some ⟨b1, 0, none⟩)), (71, .bool (((spanB c.peak 1) && (spanB c.early 0)) && (c.whole == 0)))] (by kernel_rfl) rfl ?_
       refine VL_join (((spanB c.peak 1) && (spanB c.early 0)) && (c.whole == 0)) (fun bV => [(1, .pointer (some ⟨b1, 0, none⟩)), (71, .bool bV)]) 11 [(1, .pointer (some ⟨b1, 0, none⟩)), (75, .bool ((((spanB c.peak 1) && (spanB c.early 0)) && (c.whole == 0)) && (c.burst == 0)))] rfl (fun hg26 J26 => ?_) (fun hg26 J26 => ?_) ?_
       ·refine VL_pure 8 [1, 71, 72] [(1, .pointer (some ⟨b1, 0, none⟩)), (71, .bool true), (72, .pointer (some ⟨b1, 4, none⟩))] (by kernel_rfl) rfl ?_
        refine VL_load (d := 73) (t := 3) (a := ⟨b1, 4, none⟩) (v := .int .i64 c.burst) (by kernel_rfl) (by kernel_rfl) (Loads.own1 ho1 (by kernel_rfl) (by rfl)) ?_
        refine VL_pure 11 [1, 75] [(1, .pointer (some ⟨b1, 0, none⟩)), (75, .bool (c.burst == 0))] (by kernel_rfl) rfl ?_
        exact VL_eq _ (by simp only [hg26, Bool.true_and, Bool.false_and, Bool.true_or, Bool.false_or, Bool.not_true, Bool.not_false]) J26
       ·refine VL_pure 11 [1, 75] [(1, .pointer (some ⟨b1, 0, none⟩)), (75, .bool false)] (by kernel_rfl) rfl ?_
        exact VL_eq _ (by simp only [hg26, Bool.true_and, Bool.false_and, Bool.true_or, Bool.false_or, Bool.not_true, Bool.not_false]) J26
       refine VL_pure 12 [1, 76] [(1, .pointer (some ⟨b1, 0, none⟩)), (76, .bool ((((spanB c.peak 1) && (spanB c.early 0)) && (c.whole == 0)) && (c.burst == 0)))] (by kernel_rfl) rfl ?_
       refine VL_join ((((spanB c.peak 1) && (spanB c.early 0)) && (c.whole == 0)) && (c.burst == 0)) (fun bV => [(1, .pointer (some ⟨b1, 0, none⟩)), (76, .bool bV)]) 16 [(80, .bool (((((spanB c.peak 1) && (spanB c.early 0)) && (c.whole == 0)) && (c.burst == 0)) && (c.least == 0)))] rfl (fun hg27 J27 => ?_) (fun hg27 J27 => ?_) ?_
       ·refine VL_pure 13 [76, 77] [(76, .bool true), (77, .pointer (some ⟨b1, 5, none⟩))] (by kernel_rfl) rfl ?_
        refine VL_load (d := 78) (t := 3) (a := ⟨b1, 5, none⟩) (v := .int .i64 c.least) (by kernel_rfl) (by kernel_rfl) (Loads.own1 ho1 (by kernel_rfl) (by rfl)) ?_
        refine VL_pure 16 [80] [(80, .bool (c.least == 0))] (by kernel_rfl) rfl ?_
        exact VL_eq _ (by simp only [hg27, Bool.true_and, Bool.false_and, Bool.true_or, Bool.false_or, Bool.not_true, Bool.not_false]) J27
       ·refine VL_pure 16 [80] [(80, .bool false)] (by kernel_rfl) rfl ?_
        exact VL_eq _ (by simp only [hg27, Bool.true_and, Bool.false_and, Bool.true_or, Bool.false_or, Bool.not_true, Bool.not_false]) J27
       refine VL_pure 17 [3] [(3, .bool (((((spanB c.peak 1) && (spanB c.early 0)) && (c.whole == 0)) && (c.burst == 0)) && (c.least == 0)))] (by kernel_rfl) rfl ?_
       refine VL_end (by kernel_rfl) ?_
       refine VQ_block_normal ?_
       refine VQ_next ?_
       refine VC_seq ?_
       refine VC_seq ?_
       have hE : (((((spanB c.peak 1) && (spanB c.early 0)) && (c.whole == 0)) && (c.burst == 0)) && (c.least == 0)) = (rightC c == 0) := right_cbr (by omega)
       refine VC_eqL [(3, .bool ((rightC c) == 0))] (by rw [hE]) ?_
       refine VC_region ?_
       refine VL_pure 2 [82] [(82, .bool (!((rightC c) == 0)))] (by kernel_rfl) rfl ?_
       refine VL_end (by kernel_rfl) ?_
       refine VQ_next ?_
       refine VC_cond (!((rightC c) == 0)) (by kernel_rfl) (fun h21 => ?_) (fun h21 => ?_)
       ·try simp only [Bool.and_eq_true, Bool.or_eq_true, decide_eq_true_eq, Bool.not_eq_true', decide_eq_false_iff_not, Bool.and_eq_false_iff, Bool.or_eq_false_iff, beq_iff_eq, bne_iff_ne, beq_eq_false_iff_ne, bne_eq_false_iff_eq, Bool.not_eq_eq_eq_not, Bool.not_true, Bool.not_false] at h21
        refine VC_seq ?_
        refine VC_region ?_
        refine VL_pure 1 [2] [(2, .int .i64 11)] (by kernel_rfl) rfl ?_
        refine VL_end (by kernel_rfl) ?_
        refine VQ_next ?_
        refine VC_ret ?_
        refine VQ_then_ret ?_
        refine VQ_ret1 (.int .i64 11) (.inr rfl) rfl rfl ?_
        exact ⟨congrArg (Value.int .i64) (by first | exact Eq.symm (by assumption) | exact right11 (by omega) (by omega) (by assumption) | exact right12 (by omega)), hS⟩
       ·try simp only [Bool.and_eq_true, Bool.or_eq_true, decide_eq_true_eq, Bool.not_eq_true', decide_eq_false_iff_not, Bool.and_eq_false_iff, Bool.or_eq_false_iff, beq_iff_eq, bne_iff_ne, beq_eq_false_iff_ne, bne_eq_false_iff_eq, Bool.not_eq_eq_eq_not, Bool.not_true, Bool.not_false] at h21
        refine VC_skip ?_
        refine VQ_next ?_
        refine VC_seq ?_
        refine VC_region ?_
        refine VL_pure 1 [2] [(2, .int .i64 0)] (by kernel_rfl) rfl ?_
        refine VL_end (by kernel_rfl) ?_
        refine VQ_next ?_
        refine VC_ret ?_
        refine VQ_ret1 (.int .i64 0) (.inr rfl) rfl rfl ?_
        exact ⟨congrArg (Value.int .i64) (by first | exact Eq.symm (by assumption) | exact right11 (by omega) (by omega) (by assumption) | exact right12 (by omega)), hS⟩
      ·refine VC_seq ?_
       refine VC_region ?_
       refine VL_pure 1 [2] [(2, .int .i64 12)] (by kernel_rfl) rfl ?_
       refine VL_end (by kernel_rfl) ?_
       refine VQ_next ?_
       refine VC_ret ?_
       refine VQ_block_ret ?_
       refine VQ_then_ret ?_
       refine VQ_ret1 (.int .i64 12) (.inr rfl) rfl rfl ?_
       exact ⟨congrArg (Value.int .i64) (by first | exact Eq.symm (by assumption) | exact right11 (by omega) (by omega) (by assumption) | exact right12 (by omega)), hS⟩
     ·refine VC_seq ?_
      refine VC_region ?_
      refine VL_pure 2 [1, 3, 13, 61] [(1, .pointer (some ⟨b1, 0, none⟩)), (3, .bool ((spanB c.peak 1) && (spanB c.early 0))), (13, .int .i64 c.kind), (61, .bool (c.kind == 6))] (by kernel_rfl) rfl ?_
      refine VL_end (by kernel_rfl) ?_
      refine VQ_next ?_
      refine VC_eq c.kind 6 (by kernel_rfl) (fun h22 => ?_) (fun h22 => ?_)
      ·refine VC_skip ?_
       refine VQ_next ?_
       refine VC_eq c.kind 6 (by kernel_rfl) (fun h23 => ?_) (fun h23 => ?_)
       ·refine VC_region ?_
        refine VL_pure 2 [1, 66] [(1, .pointer (some ⟨b1, 0, none⟩)), (66, .bool ((spanB c.peak 1) && (spanB c.early 0)))] (by kernel_rfl) rfl ?_
        refine VL_join ((spanB c.peak 1) && (spanB c.early 0)) (fun bV => [(1, .pointer (some ⟨b1, 0, none⟩)), (66, .bool bV)]) 6 [(1, .pointer (some ⟨b1, 0, none⟩)), (70, .bool (((spanB c.peak 1) && (spanB c.early 0)) && (c.whole == 0)))] rfl (fun hg28 J28 => ?_) (fun hg28 J28 => ?_) ?_
        ·refine VL_pure 3 [1, 66, 67] [(1, .pointer (some ⟨b1, 0, none⟩)), (66, .bool true), (67, .pointer (some ⟨b1, 3, none⟩))] (by kernel_rfl) rfl ?_
         refine VL_load (d := 68) (t := 3) (a := ⟨b1, 3, none⟩) (v := .int .i64 c.whole) (by kernel_rfl) (by kernel_rfl) (Loads.own1 ho1 (by kernel_rfl) (by rfl)) ?_
         refine VL_pure 6 [1, 70] [(1, .pointer (some ⟨b1, 0, none⟩)), (70, .bool (c.whole == 0))] (by kernel_rfl) rfl ?_
         exact VL_eq _ (by simp only [hg28, Bool.true_and, Bool.false_and, Bool.true_or, Bool.false_or, Bool.not_true, Bool.not_false]) J28
        ·refine VL_pure 6 [1, 70] [(1, .pointer (some ⟨b1, 0, none⟩)), (70, .bool false)] (by kernel_rfl) rfl ?_
         exact VL_eq _ (by simp only [hg28, Bool.true_and, Bool.false_and, Bool.true_or, Bool.false_or, Bool.not_true, Bool.not_false]) J28
        refine VL_pure 7 [1, 71] [(1, .pointer (some ⟨b1, 0, none⟩)), (71, .bool (((spanB c.peak 1) && (spanB c.early 0)) && (c.whole == 0)))] (by kernel_rfl) rfl ?_
        refine VL_join (((spanB c.peak 1) && (spanB c.early 0)) && (c.whole == 0)) (fun bV => [(1, .pointer (some ⟨b1, 0, none⟩)), (71, .bool bV)]) 11 [(1, .pointer (some ⟨b1, 0, none⟩)), (75, .bool ((((spanB c.peak 1) && (spanB c.early 0)) && (c.whole == 0)) && (c.burst == 0)))] rfl (fun hg29 J29 => ?_) (fun hg29 J29 => ?_) ?_
        ·refine VL_pure 8 [1, 71, 72] [(1, .pointer (some ⟨b1, 0, none⟩)), (71, .bool true), (72, .pointer (some ⟨b1, 4, none⟩))] (by kernel_rfl) rfl ?_
         refine VL_load (d := 73) (t := 3) (a := ⟨b1, 4, none⟩) (v := .int .i64 c.burst) (by kernel_rfl) (by kernel_rfl) (Loads.own1 ho1 (by kernel_rfl) (by rfl)) ?_
         refine VL_pure 11 [1, 75] [(1, .pointer (some ⟨b1, 0, none⟩)), (75, .bool (c.burst == 0))] (by kernel_rfl) rfl ?_
         exact VL_eq _ (by simp only [hg29, Bool.true_and, Bool.false_and, Bool.true_or, Bool.false_or, Bool.not_true, Bool.not_false]) J29
        ·refine VL_pure 11 [1, 75] [(1, .pointer (some ⟨b1, 0, none⟩)), (75, .bool false)] (by kernel_rfl) rfl ?_
         exact VL_eq _ (by simp only [hg29, Bool.true_and, Bool.false_and, Bool.true_or, Bool.false_or, Bool.not_true, Bool.not_false]) J29
        refine VL_pure 12 [1, 76] [(1, .pointer (some ⟨b1, 0, none⟩)), (76, .bool ((((spanB c.peak 1) && (spanB c.early 0)) && (c.whole == 0)) && (c.burst == 0)))] (by kernel_rfl) rfl ?_
        refine VL_join ((((spanB c.peak 1) && (spanB c.early 0)) && (c.whole == 0)) && (c.burst == 0)) (fun bV => [(1, .pointer (some ⟨b1, 0, none⟩)), (76, .bool bV)]) 16 [(80, .bool (((((spanB c.peak 1) && (spanB c.early 0)) && (c.whole == 0)) && (c.burst == 0)) && (c.least == 0)))] rfl (fun hg30 J30 => ?_) (fun hg30 J30 => ?_) ?_
        ·refine VL_pure 13 [76, 77] [(76, .bool true), (77, .pointer (some ⟨b1, 5, none⟩))] (by kernel_rfl) rfl ?_
         refine VL_load (d := 78) (t := 3) (a := ⟨b1, 5, none⟩) (v := .int .i64 c.least) (by kernel_rfl) (by kernel_rfl) (Loads.own1 ho1 (by kernel_rfl) (by rfl)) ?_
         refine VL_pure 16 [80] [(80, .bool (c.least == 0))] (by kernel_rfl) rfl ?_
         exact VL_eq _ (by simp only [hg30, Bool.true_and, Bool.false_and, Bool.true_or, Bool.false_or, Bool.not_true, Bool.not_false]) J30
        ·refine VL_pure 16 [80] [(80, .bool false)] (by kernel_rfl) rfl ?_
         exact VL_eq _ (by simp only [hg30, Bool.true_and, Bool.false_and, Bool.true_or, Bool.false_or, Bool.not_true, Bool.not_false]) J30
        refine VL_pure 17 [3] [(3, .bool (((((spanB c.peak 1) && (spanB c.early 0)) && (c.whole == 0)) && (c.burst == 0)) && (c.least == 0)))] (by kernel_rfl) rfl ?_
        refine VL_end (by kernel_rfl) ?_
        refine VQ_block_normal ?_
        refine VQ_next ?_
        refine VC_seq ?_
        refine VC_seq ?_
        have hE : (((((spanB c.peak 1) && (spanB c.early 0)) && (c.whole == 0)) && (c.burst == 0)) && (c.least == 0)) = (rightC c == 0) := right_cbr (by omega)
        refine VC_eqL [(3, .bool ((rightC c) == 0))] (by rw [hE]) ?_
        refine VC_region ?_
        refine VL_pure 2 [82] [(82, .bool (!((rightC c) == 0)))] (by kernel_rfl) rfl ?_
        refine VL_end (by kernel_rfl) ?_
        refine VQ_next ?_
        refine VC_cond (!((rightC c) == 0)) (by kernel_rfl) (fun h24 => ?_) (fun h24 => ?_)
        ·try simp only [Bool.and_eq_true, Bool.or_eq_true, decide_eq_true_eq, Bool.not_eq_true', decide_eq_false_iff_not, Bool.and_eq_false_iff, Bool.or_eq_false_iff, beq_iff_eq, bne_iff_ne, beq_eq_false_iff_ne, bne_eq_false_iff_eq, Bool.not_eq_eq_eq_not, Bool.not_true, Bool.not_false] at h24
         refine VC_seq ?_
         refine VC_region ?_
         refine VL_pure 1 [2] [(2, .int .i64 11)] (by kernel_rfl) rfl ?_
         refine VL_end (by kernel_rfl) ?_
         refine VQ_next ?_
         refine VC_ret ?_
         refine VQ_then_ret ?_
         refine VQ_ret1 (.int .i64 11) (.inr rfl) rfl rfl ?_
         exact ⟨congrArg (Value.int .i64) (by first | exact Eq.symm (by assumption) | exact right11 (by omega) (by omega) (by assumption) | exact right12 (by omega)), hS⟩
        ·try simp only [Bool.and_eq_true, Bool.or_eq_true, decide_eq_true_eq, Bool.not_eq_true', decide_eq_false_iff_not, Bool.and_eq_false_iff, Bool.or_eq_false_iff, beq_iff_eq, bne_iff_ne, beq_eq_false_iff_ne, bne_eq_false_iff_eq, Bool.not_eq_eq_eq_not, Bool.not_true, Bool.not_false] at h24
         refine VC_skip ?_
         refine VQ_next ?_
         refine VC_seq ?_
         refine VC_region ?_
         refine VL_pure 1 [2] [(2, .int .i64 0)] (by kernel_rfl) rfl ?_
         refine VL_end (by kernel_rfl) ?_
         refine VQ_next ?_
         refine VC_ret ?_
         refine VQ_ret1 (.int .i64 0) (.inr rfl) rfl rfl ?_
         exact ⟨congrArg (Value.int .i64) (by first | exact Eq.symm (by assumption) | exact right11 (by omega) (by omega) (by assumption) | exact right12 (by omega)), hS⟩
       ·refine VC_seq ?_
        refine VC_region ?_
        refine VL_pure 1 [2] [(2, .int .i64 12)] (by kernel_rfl) rfl ?_
        refine VL_end (by kernel_rfl) ?_
        refine VQ_next ?_
        refine VC_ret ?_
        refine VQ_block_ret ?_
        refine VQ_then_ret ?_
        refine VQ_ret1 (.int .i64 12) (.inr rfl) rfl rfl ?_
        exact ⟨congrArg (Value.int .i64) (by first | exact Eq.symm (by assumption) | exact right11 (by omega) (by omega) (by assumption) | exact right12 (by omega)), hS⟩
      ·refine VC_region ?_
       refine VL_pure 2 [1, 3, 61] [(1, .pointer (some ⟨b1, 0, none⟩)), (3, .bool ((spanB c.peak 1) && (spanB c.early 0))), (61, .bool (c.kind == 7))] (by kernel_rfl) rfl ?_
       refine VL_end (by kernel_rfl) ?_
       refine VQ_next ?_
       refine VC_eq c.kind 7 (by kernel_rfl) (fun h25 => ?_) (fun h25 => ?_)
       ·refine VC_region ?_
        refine VL_pure 2 [1, 66] [(1, .pointer (some ⟨b1, 0, none⟩)), (66, .bool ((spanB c.peak 1) && (spanB c.early 0)))] (by kernel_rfl) rfl ?_
        refine VL_join ((spanB c.peak 1) && (spanB c.early 0)) (fun bV => [(1, .pointer (some ⟨b1, 0, none⟩)), (66, .bool bV)]) 6 [(1, .pointer (some ⟨b1, 0, none⟩)), (70, .bool (((spanB c.peak 1) && (spanB c.early 0)) && (c.whole == 0)))] rfl (fun hg31 J31 => ?_) (fun hg31 J31 => ?_) ?_
        ·refine VL_pure 3 [1, 66, 67] [(1, .pointer (some ⟨b1, 0, none⟩)), (66, .bool true), (67, .pointer (some ⟨b1, 3, none⟩))] (by kernel_rfl) rfl ?_
         refine VL_load (d := 68) (t := 3) (a := ⟨b1, 3, none⟩) (v := .int .i64 c.whole) (by kernel_rfl) (by kernel_rfl) (Loads.own1 ho1 (by kernel_rfl) (by rfl)) ?_
         refine VL_pure 6 [1, 70] [(1, .pointer (some ⟨b1, 0, none⟩)), (70, .bool (c.whole == 0))] (by kernel_rfl) rfl ?_
         exact VL_eq _ (by simp only [hg31, Bool.true_and, Bool.false_and, Bool.true_or, Bool.false_or, Bool.not_true, Bool.not_false]) J31
        ·refine VL_pure 6 [1, 70] [(1, .pointer (some ⟨b1, 0, none⟩)), (70, .bool false)] (by kernel_rfl) rfl ?_
         exact VL_eq _ (by simp only [hg31, Bool.true_and, Bool.false_and, Bool.true_or, Bool.false_or, Bool.not_true, Bool.not_false]) J31
        refine VL_pure 7 [1, 71] [(1, .pointer (some ⟨b1, 0, none⟩)), (71, .bool (((spanB c.peak 1) && (spanB c.early 0)) && (c.whole == 0)))] (by kernel_rfl) rfl ?_
        refine VL_join (((spanB c.peak 1) && (spanB c.early 0)) && (c.whole == 0)) (fun bV => [(1, .pointer (some ⟨b1, 0, none⟩)), (71, .bool bV)]) 11 [(1, .pointer (some ⟨b1, 0, none⟩)), (75, .bool ((((spanB c.peak 1) && (spanB c.early 0)) && (c.whole == 0)) && (c.burst == 0)))] rfl (fun hg32 J32 => ?_) (fun hg32 J32 => ?_) ?_
        ·refine VL_pure 8 [1, 71, 72] [(1, .pointer (some ⟨b1, 0, none⟩)), (71, .bool true), (72, .pointer (some ⟨b1, 4, none⟩))] (by kernel_rfl) rfl ?_
         refine VL_load (d := 73) (t := 3) (a := ⟨b1, 4, none⟩) (v := .int .i64 c.burst) (by kernel_rfl) (by kernel_rfl) (Loads.own1 ho1 (by kernel_rfl) (by rfl)) ?_
         refine VL_pure 11 [1, 75] [(1, .pointer (some ⟨b1, 0, none⟩)), (75, .bool (c.burst == 0))] (by kernel_rfl) rfl ?_
         exact VL_eq _ (by simp only [hg32, Bool.true_and, Bool.false_and, Bool.true_or, Bool.false_or, Bool.not_true, Bool.not_false]) J32
        ·refine VL_pure 11 [1, 75] [(1, .pointer (some ⟨b1, 0, none⟩)), (75, .bool false)] (by kernel_rfl) rfl ?_
         exact VL_eq _ (by simp only [hg32, Bool.true_and, Bool.false_and, Bool.true_or, Bool.false_or, Bool.not_true, Bool.not_false]) J32
        refine VL_pure 12 [1, 76] [(1, .pointer (some ⟨b1, 0, none⟩)), (76, .bool ((((spanB c.peak 1) && (spanB c.early 0)) && (c.whole == 0)) && (c.burst == 0)))] (by kernel_rfl) rfl ?_
        refine VL_join ((((spanB c.peak 1) && (spanB c.early 0)) && (c.whole == 0)) && (c.burst == 0)) (fun bV => [(1, .pointer (some ⟨b1, 0, none⟩)), (76, .bool bV)]) 16 [(80, .bool (((((spanB c.peak 1) && (spanB c.early 0)) && (c.whole == 0)) && (c.burst == 0)) && (c.least == 0)))] rfl (fun hg33 J33 => ?_) (fun hg33 J33 => ?_) ?_
        ·refine VL_pure 13 [76, 77] [(76, .bool true), (77, .pointer (some ⟨b1, 5, none⟩))] (by kernel_rfl) rfl ?_
         refine VL_load (d := 78) (t := 3) (a := ⟨b1, 5, none⟩) (v := .int .i64 c.least) (by kernel_rfl) (by kernel_rfl) (Loads.own1 ho1 (by kernel_rfl) (by rfl)) ?_
         refine VL_pure 16 [80] [(80, .bool (c.least == 0))] (by kernel_rfl) rfl ?_
         exact VL_eq _ (by simp only [hg33, Bool.true_and, Bool.false_and, Bool.true_or, Bool.false_or, Bool.not_true, Bool.not_false]) J33
        ·refine VL_pure 16 [80] [(80, .bool false)] (by kernel_rfl) rfl ?_
         exact VL_eq _ (by simp only [hg33, Bool.true_and, Bool.false_and, Bool.true_or, Bool.false_or, Bool.not_true, Bool.not_false]) J33
        refine VL_pure 17 [3] [(3, .bool (((((spanB c.peak 1) && (spanB c.early 0)) && (c.whole == 0)) && (c.burst == 0)) && (c.least == 0)))] (by kernel_rfl) rfl ?_
        refine VL_end (by kernel_rfl) ?_
        refine VQ_block_normal ?_
        refine VQ_next ?_
        refine VC_seq ?_
        refine VC_seq ?_
        have hE : (((((spanB c.peak 1) && (spanB c.early 0)) && (c.whole == 0)) && (c.burst == 0)) && (c.least == 0)) = (rightC c == 0) := right_cbr (by omega)
        refine VC_eqL [(3, .bool ((rightC c) == 0))] (by rw [hE]) ?_
        refine VC_region ?_
        refine VL_pure 2 [82] [(82, .bool (!((rightC c) == 0)))] (by kernel_rfl) rfl ?_
        refine VL_end (by kernel_rfl) ?_
        refine VQ_next ?_
        refine VC_cond (!((rightC c) == 0)) (by kernel_rfl) (fun h26 => ?_) (fun h26 => ?_)
        ·try simp only [Bool.and_eq_true, Bool.or_eq_true, decide_eq_true_eq, Bool.not_eq_true', decide_eq_false_iff_not, Bool.and_eq_false_iff, Bool.or_eq_false_iff, beq_iff_eq, bne_iff_ne, beq_eq_false_iff_ne, bne_eq_false_iff_eq, Bool.not_eq_eq_eq_not, Bool.not_true, Bool.not_false] at h26
         refine VC_seq ?_
         refine VC_region ?_
         refine VL_pure 1 [2] [(2, .int .i64 11)] (by kernel_rfl) rfl ?_
         refine VL_end (by kernel_rfl) ?_
         refine VQ_next ?_
         refine VC_ret ?_
         refine VQ_then_ret ?_
         refine VQ_ret1 (.int .i64 11) (.inr rfl) rfl rfl ?_
         exact ⟨congrArg (Value.int .i64) (by first | exact Eq.symm (by assumption) | exact right11 (by omega) (by omega) (by assumption) | exact right12 (by omega)), hS⟩
        ·try simp only [Bool.and_eq_true, Bool.or_eq_true, decide_eq_true_eq, Bool.not_eq_true', decide_eq_false_iff_not, Bool.and_eq_false_iff, Bool.or_eq_false_iff, beq_iff_eq, bne_iff_ne, beq_eq_false_iff_ne, bne_eq_false_iff_eq, Bool.not_eq_eq_eq_not, Bool.not_true, Bool.not_false] at h26
         refine VC_skip ?_
         refine VQ_next ?_
         refine VC_seq ?_
         refine VC_region ?_
         refine VL_pure 1 [2] [(2, .int .i64 0)] (by kernel_rfl) rfl ?_
         refine VL_end (by kernel_rfl) ?_
         refine VQ_next ?_
         refine VC_ret ?_
         refine VQ_ret1 (.int .i64 0) (.inr rfl) rfl rfl ?_
         exact ⟨congrArg (Value.int .i64) (by first | exact Eq.symm (by assumption) | exact right11 (by omega) (by omega) (by assumption) | exact right12 (by omega)), hS⟩
       ·refine VC_seq ?_
        refine VC_region ?_
        refine VL_pure 1 [2] [(2, .int .i64 12)] (by kernel_rfl) rfl ?_
        refine VL_end (by kernel_rfl) ?_
        refine VQ_next ?_
        refine VC_ret ?_
        refine VQ_block_ret ?_
        refine VQ_then_ret ?_
        refine VQ_ret1 (.int .i64 12) (.inr rfl) rfl rfl ?_
        exact ⟨congrArg (Value.int .i64) (by first | exact Eq.symm (by assumption) | exact right11 (by omega) (by omega) (by assumption) | exact right12 (by omega)), hS⟩
  ·refine VC_region ?_
   refine VL_pure 2 [1, 3, 13, 14] [(1, .pointer (some ⟨b1, 0, none⟩)), (3, .bool ((spanB c.peak 1) && (spanB c.early 0))), (13, .int .i64 c.kind), (14, .bool (c.kind == 4))] (by kernel_rfl) rfl ?_
   refine VL_end (by kernel_rfl) ?_
   refine VQ_next ?_
   refine VC_eq c.kind 4 (by kernel_rfl) (fun h27 => ?_) (fun h27 => ?_)
   ·refine VC_region ?_
    refine VL_pure 2 [1, 19] [(1, .pointer (some ⟨b1, 0, none⟩)), (19, .bool ((spanB c.peak 1) && (spanB c.early 0)))] (by kernel_rfl) rfl ?_
    refine VL_join ((spanB c.peak 1) && (spanB c.early 0)) (fun bV => [(1, .pointer (some ⟨b1, 0, none⟩)), (19, .bool bV)]) 8 [(1, .pointer (some ⟨b1, 0, none⟩)), (25, .bool (((spanB c.peak 1) && (spanB c.early 0)) && (spanB c.whole c.peak)))] rfl (fun hg34 J34 => ?_) (fun hg34 J34 => ?_) ?_
    ·refine VL_pure 3 [1, 19, 20] [(1, .pointer (some ⟨b1, 0, none⟩)), (19, .bool true), (20, .pointer (some ⟨b1, 3, none⟩))] (by kernel_rfl) rfl ?_
     refine VL_load (d := 21) (t := 3) (a := ⟨b1, 3, none⟩) (v := .int .i64 c.whole) (by kernel_rfl) (by kernel_rfl) (Loads.own1 ho1 (by kernel_rfl) (by rfl)) ?_
     refine VL_pure 5 [1, 19, 21, 22] [(1, .pointer (some ⟨b1, 0, none⟩)), (19, .bool true), (21, .int .i64 c.whole), (22, .pointer (some ⟨b1, 1, none⟩))] (by kernel_rfl) rfl ?_
     refine VL_load (d := 23) (t := 3) (a := ⟨b1, 1, none⟩) (v := .int .i64 c.peak) (by kernel_rfl) (by kernel_rfl) (Loads.own1 ho1 (by kernel_rfl) (by rfl)) ?_
     have hzs10 := hS.size
     have hzl9 := ho1.lt
     refine VL_call (d := 24) (f := 28) (args := #[.int .i64 c.whole, .int .i64 c.peak]) (by kernel_rfl) (by kernel_rfl) (by kernel_rfl) Try.call28 ((span_ce c.whole c.peak) w1) ?_
     rintro _ w10 ⟨rfl, hc9⟩
     subst w10
     refine VL_pure 8 [1, 25] [(1, .pointer (some ⟨b1, 0, none⟩)), (25, .bool (spanB c.whole c.peak))] (by kernel_rfl) rfl ?_
     exact VL_eq _ (by simp only [hg34, Bool.true_and, Bool.false_and, Bool.true_or, Bool.false_or, Bool.not_true, Bool.not_false]) J34
    ·refine VL_pure 8 [1, 25] [(1, .pointer (some ⟨b1, 0, none⟩)), (25, .bool false)] (by kernel_rfl) rfl ?_
     exact VL_eq _ (by simp only [hg34, Bool.true_and, Bool.false_and, Bool.true_or, Bool.false_or, Bool.not_true, Bool.not_false]) J34
    refine VL_pure 9 [1, 26] [(1, .pointer (some ⟨b1, 0, none⟩)), (26, .bool (((spanB c.peak 1) && (spanB c.early 0)) && (spanB c.whole c.peak)))] (by kernel_rfl) rfl ?_
    refine VL_join (((spanB c.peak 1) && (spanB c.early 0)) && (spanB c.whole c.peak)) (fun bV => [(1, .pointer (some ⟨b1, 0, none⟩)), (26, .bool bV)]) 13 [(1, .pointer (some ⟨b1, 0, none⟩)), (30, .bool ((((spanB c.peak 1) && (spanB c.early 0)) && (spanB c.whole c.peak)) && (spanB c.burst 0)))] rfl (fun hg35 J35 => ?_) (fun hg35 J35 => ?_) ?_
    ·refine VL_pure 10 [1, 26, 27] [(1, .pointer (some ⟨b1, 0, none⟩)), (26, .bool true), (27, .pointer (some ⟨b1, 4, none⟩))] (by kernel_rfl) rfl ?_
     refine VL_load (d := 28) (t := 3) (a := ⟨b1, 4, none⟩) (v := .int .i64 c.burst) (by kernel_rfl) (by kernel_rfl) (Loads.own1 ho1 (by kernel_rfl) (by rfl)) ?_
     have hzs11 := hS.size
     have hzl10 := ho1.lt
     refine VL_call (d := 29) (f := 28) (args := #[.int .i64 c.burst, .int .i64 0]) (by kernel_rfl) (by kernel_rfl) (by kernel_rfl) Try.call28 ((span_ce c.burst 0) w1) ?_
     rintro _ w11 ⟨rfl, hc10⟩
     subst w11
     refine VL_pure 13 [1, 30] [(1, .pointer (some ⟨b1, 0, none⟩)), (30, .bool (spanB c.burst 0))] (by kernel_rfl) rfl ?_
     exact VL_eq _ (by simp only [hg35, Bool.true_and, Bool.false_and, Bool.true_or, Bool.false_or, Bool.not_true, Bool.not_false]) J35
    ·refine VL_pure 13 [1, 30] [(1, .pointer (some ⟨b1, 0, none⟩)), (30, .bool false)] (by kernel_rfl) rfl ?_
     exact VL_eq _ (by simp only [hg35, Bool.true_and, Bool.false_and, Bool.true_or, Bool.false_or, Bool.not_true, Bool.not_false]) J35
    refine VL_pure 14 [1, 31] [(1, .pointer (some ⟨b1, 0, none⟩)), (31, .bool ((((spanB c.peak 1) && (spanB c.early 0)) && (spanB c.whole c.peak)) && (spanB c.burst 0)))] (by kernel_rfl) rfl ?_
    refine VL_join ((((spanB c.peak 1) && (spanB c.early 0)) && (spanB c.whole c.peak)) && (spanB c.burst 0)) (fun bV => [(1, .pointer (some ⟨b1, 0, none⟩)), (31, .bool bV)]) 18 [(35, .bool (((((spanB c.peak 1) && (spanB c.early 0)) && (spanB c.whole c.peak)) && (spanB c.burst 0)) && (c.least == 0)))] rfl (fun hg36 J36 => ?_) (fun hg36 J36 => ?_) ?_
    ·refine VL_pure 15 [31, 32] [(31, .bool true), (32, .pointer (some ⟨b1, 5, none⟩))] (by kernel_rfl) rfl ?_
     refine VL_load (d := 33) (t := 3) (a := ⟨b1, 5, none⟩) (v := .int .i64 c.least) (by kernel_rfl) (by kernel_rfl) (Loads.own1 ho1 (by kernel_rfl) (by rfl)) ?_
     refine VL_pure 18 [35] [(35, .bool (c.least == 0))] (by kernel_rfl) rfl ?_
     exact VL_eq _ (by simp only [hg36, Bool.true_and, Bool.false_and, Bool.true_or, Bool.false_or, Bool.not_true, Bool.not_false]) J36
    ·refine VL_pure 18 [35] [(35, .bool false)] (by kernel_rfl) rfl ?_
     exact VL_eq _ (by simp only [hg36, Bool.true_and, Bool.false_and, Bool.true_or, Bool.false_or, Bool.not_true, Bool.not_false]) J36
    refine VL_pure 19 [3] [(3, .bool (((((spanB c.peak 1) && (spanB c.early 0)) && (spanB c.whole c.peak)) && (spanB c.burst 0)) && (c.least == 0)))] (by kernel_rfl) rfl ?_
    refine VL_end (by kernel_rfl) ?_
    refine VQ_block_normal ?_
    refine VQ_next ?_
    refine VC_seq ?_
    refine VC_seq ?_
    have hE : (((((spanB c.peak 1) && (spanB c.early 0)) && (spanB c.whole c.peak)) && (spanB c.burst 0)) && (c.least == 0)) = (rightC c == 0) := right_vbr (by omega)
    refine VC_eqL [(3, .bool ((rightC c) == 0))] (by rw [hE]) ?_
    refine VC_region ?_
    refine VL_pure 2 [82] [(82, .bool (!((rightC c) == 0)))] (by kernel_rfl) rfl ?_
    refine VL_end (by kernel_rfl) ?_
    refine VQ_next ?_
    refine VC_cond (!((rightC c) == 0)) (by kernel_rfl) (fun h28 => ?_) (fun h28 => ?_)
    ·try simp only [Bool.and_eq_true, Bool.or_eq_true, decide_eq_true_eq, Bool.not_eq_true', decide_eq_false_iff_not, Bool.and_eq_false_iff, Bool.or_eq_false_iff, beq_iff_eq, bne_iff_ne, beq_eq_false_iff_ne, bne_eq_false_iff_eq, Bool.not_eq_eq_eq_not, Bool.not_true, Bool.not_false] at h28
     refine VC_seq ?_
     refine VC_region ?_
     refine VL_pure 1 [2] [(2, .int .i64 11)] (by kernel_rfl) rfl ?_
     refine VL_end (by kernel_rfl) ?_
     refine VQ_next ?_
     refine VC_ret ?_
     refine VQ_then_ret ?_
     refine VQ_ret1 (.int .i64 11) (.inr rfl) rfl rfl ?_
     exact ⟨congrArg (Value.int .i64) (by first | exact Eq.symm (by assumption) | exact right11 (by omega) (by omega) (by assumption) | exact right12 (by omega)), hS⟩
    ·try simp only [Bool.and_eq_true, Bool.or_eq_true, decide_eq_true_eq, Bool.not_eq_true', decide_eq_false_iff_not, Bool.and_eq_false_iff, Bool.or_eq_false_iff, beq_iff_eq, bne_iff_ne, beq_eq_false_iff_ne, bne_eq_false_iff_eq, Bool.not_eq_eq_eq_not, Bool.not_true, Bool.not_false] at h28
     refine VC_skip ?_
     refine VQ_next ?_
     refine VC_seq ?_
     refine VC_region ?_
     refine VL_pure 1 [2] [(2, .int .i64 0)] (by kernel_rfl) rfl ?_
     refine VL_end (by kernel_rfl) ?_
     refine VQ_next ?_
     refine VC_ret ?_
     refine VQ_ret1 (.int .i64 0) (.inr rfl) rfl rfl ?_
     exact ⟨congrArg (Value.int .i64) (by first | exact Eq.symm (by assumption) | exact right11 (by omega) (by omega) (by assumption) | exact right12 (by omega)), hS⟩
   ·refine VC_seq ?_
    refine VC_region ?_
    refine VL_pure 2 [1, 3, 13, 36] [(1, .pointer (some ⟨b1, 0, none⟩)), (3, .bool ((spanB c.peak 1) && (spanB c.early 0))), (13, .int .i64 c.kind), (36, .bool (c.kind == 5))] (by kernel_rfl) rfl ?_
    refine VL_end (by kernel_rfl) ?_
    refine VQ_next ?_
    refine VC_eq c.kind 5 (by kernel_rfl) (fun h29 => ?_) (fun h29 => ?_)
    ·refine VC_region ?_
     refine VL_pure 2 [1, 39] [(1, .pointer (some ⟨b1, 0, none⟩)), (39, .bool ((spanB c.peak 1) && (spanB c.early 0)))] (by kernel_rfl) rfl ?_
     refine VL_join ((spanB c.peak 1) && (spanB c.early 0)) (fun bV => [(1, .pointer (some ⟨b1, 0, none⟩)), (39, .bool bV)]) 6 [(1, .pointer (some ⟨b1, 0, none⟩)), (43, .bool (((spanB c.peak 1) && (spanB c.early 0)) && (c.whole == 0)))] rfl (fun hg37 J37 => ?_) (fun hg37 J37 => ?_) ?_
     ·refine VL_pure 3 [1, 39, 40] [(1, .pointer (some ⟨b1, 0, none⟩)), (39, .bool true), (40, .pointer (some ⟨b1, 3, none⟩))] (by kernel_rfl) rfl ?_
      refine VL_load (d := 41) (t := 3) (a := ⟨b1, 3, none⟩) (v := .int .i64 c.whole) (by kernel_rfl) (by kernel_rfl) (Loads.own1 ho1 (by kernel_rfl) (by rfl)) ?_
      refine VL_pure 6 [1, 43] [(1, .pointer (some ⟨b1, 0, none⟩)), (43, .bool (c.whole == 0))] (by kernel_rfl) rfl ?_
      exact VL_eq _ (by simp only [hg37, Bool.true_and, Bool.false_and, Bool.true_or, Bool.false_or, Bool.not_true, Bool.not_false]) J37
     ·refine VL_pure 6 [1, 43] [(1, .pointer (some ⟨b1, 0, none⟩)), (43, .bool false)] (by kernel_rfl) rfl ?_
      exact VL_eq _ (by simp only [hg37, Bool.true_and, Bool.false_and, Bool.true_or, Bool.false_or, Bool.not_true, Bool.not_false]) J37
     refine VL_pure 7 [1, 44] [(1, .pointer (some ⟨b1, 0, none⟩)), (44, .bool (((spanB c.peak 1) && (spanB c.early 0)) && (c.whole == 0)))] (by kernel_rfl) rfl ?_
     refine VL_join (((spanB c.peak 1) && (spanB c.early 0)) && (c.whole == 0)) (fun bV => [(1, .pointer (some ⟨b1, 0, none⟩)), (44, .bool bV)]) 11 [(1, .pointer (some ⟨b1, 0, none⟩)), (48, .bool ((((spanB c.peak 1) && (spanB c.early 0)) && (c.whole == 0)) && (c.burst == 0)))] rfl (fun hg38 J38 => ?_) (fun hg38 J38 => ?_) ?_
     ·refine VL_pure 8 [1, 44, 45] [(1, .pointer (some ⟨b1, 0, none⟩)), (44, .bool true), (45, .pointer (some ⟨b1, 4, none⟩))] (by kernel_rfl) rfl ?_
      refine VL_load (d := 46) (t := 3) (a := ⟨b1, 4, none⟩) (v := .int .i64 c.burst) (by kernel_rfl) (by kernel_rfl) (Loads.own1 ho1 (by kernel_rfl) (by rfl)) ?_
      refine VL_pure 11 [1, 48] [(1, .pointer (some ⟨b1, 0, none⟩)), (48, .bool (c.burst == 0))] (by kernel_rfl) rfl ?_
      exact VL_eq _ (by simp only [hg38, Bool.true_and, Bool.false_and, Bool.true_or, Bool.false_or, Bool.not_true, Bool.not_false]) J38
     ·refine VL_pure 11 [1, 48] [(1, .pointer (some ⟨b1, 0, none⟩)), (48, .bool false)] (by kernel_rfl) rfl ?_
      exact VL_eq _ (by simp only [hg38, Bool.true_and, Bool.false_and, Bool.true_or, Bool.false_or, Bool.not_true, Bool.not_false]) J38
     refine VL_pure 12 [1, 49] [(1, .pointer (some ⟨b1, 0, none⟩)), (49, .bool ((((spanB c.peak 1) && (spanB c.early 0)) && (c.whole == 0)) && (c.burst == 0)))] (by kernel_rfl) rfl ?_
     refine VL_join ((((spanB c.peak 1) && (spanB c.early 0)) && (c.whole == 0)) && (c.burst == 0)) (fun bV => [(1, .pointer (some ⟨b1, 0, none⟩)), (49, .bool bV)]) 23 [(60, .bool (((((spanB c.peak 1) && (spanB c.early 0)) && (c.whole == 0)) && (c.burst == 0)) && ((c.least == 0) || (spanB c.least c.peak))))] rfl (fun hg39 J39 => ?_) (fun hg39 J39 => ?_) ?_
     ·refine VL_pure 13 [1, 49, 50] [(1, .pointer (some ⟨b1, 0, none⟩)), (49, .bool true), (50, .pointer (some ⟨b1, 5, none⟩))] (by kernel_rfl) rfl ?_
      refine VL_load (d := 51) (t := 3) (a := ⟨b1, 5, none⟩) (v := .int .i64 c.least) (by kernel_rfl) (by kernel_rfl) (Loads.own1 ho1 (by kernel_rfl) (by rfl)) ?_
      refine VL_pure 16 [1, 49, 53] [(1, .pointer (some ⟨b1, 0, none⟩)), (49, .bool true), (53, .bool (c.least == 0))] (by kernel_rfl) rfl ?_
      refine VL_join (c.least == 0) (fun bV => [(1, .pointer (some ⟨b1, 0, none⟩)), (49, .bool true), (53, .bool bV)]) 22 [(49, .bool true), (59, .bool ((c.least == 0) || (spanB c.least c.peak)))] rfl (fun hg40 J40 => ?_) (fun hg40 J40 => ?_) ?_
      ·refine VL_pure 22 [49, 59] [(49, .bool true), (59, .bool true)] (by kernel_rfl) rfl ?_
       exact VL_eq _ (by simp only [hg40, Bool.true_and, Bool.false_and, Bool.true_or, Bool.false_or, Bool.not_true, Bool.not_false]) J40
      ·refine VL_pure 17 [1, 49, 53, 54] [(1, .pointer (some ⟨b1, 0, none⟩)), (49, .bool true), (53, .bool false), (54, .pointer (some ⟨b1, 5, none⟩))] (by kernel_rfl) rfl ?_
       refine VL_load (d := 55) (t := 3) (a := ⟨b1, 5, none⟩) (v := .int .i64 c.least) (by kernel_rfl) (by kernel_rfl) (Loads.own1 ho1 (by kernel_rfl) (by rfl)) ?_
       refine VL_pure 19 [49, 53, 55, 56] [(49, .bool true), (53, .bool false), (55, .int .i64 c.least), (56, .pointer (some ⟨b1, 1, none⟩))] (by kernel_rfl) rfl ?_
       refine VL_load (d := 57) (t := 3) (a := ⟨b1, 1, none⟩) (v := .int .i64 c.peak) (by kernel_rfl) (by kernel_rfl) (Loads.own1 ho1 (by kernel_rfl) (by rfl)) ?_
       have hzs12 := hS.size
       have hzl11 := ho1.lt
       refine VL_call (d := 58) (f := 28) (args := #[.int .i64 c.least, .int .i64 c.peak]) (by kernel_rfl) (by kernel_rfl) (by kernel_rfl) Try.call28 ((span_ce c.least c.peak) w1) ?_
       rintro _ w12 ⟨rfl, hc11⟩
       subst w12
       refine VL_pure 22 [49, 59] [(49, .bool true), (59, .bool (spanB c.least c.peak))] (by kernel_rfl) rfl ?_
       exact VL_eq _ (by simp only [hg40, Bool.true_and, Bool.false_and, Bool.true_or, Bool.false_or, Bool.not_true, Bool.not_false]) J40
      refine VL_pure 23 [60] [(60, .bool ((c.least == 0) || (spanB c.least c.peak)))] (by kernel_rfl) rfl ?_
      exact VL_eq _ (by simp only [hg39, Bool.true_and, Bool.false_and, Bool.true_or, Bool.false_or, Bool.not_true, Bool.not_false]) J39
     ·refine VL_pure 23 [60] [(60, .bool false)] (by kernel_rfl) rfl ?_
      exact VL_eq _ (by simp only [hg39, Bool.true_and, Bool.false_and, Bool.true_or, Bool.false_or, Bool.not_true, Bool.not_false]) J39
     refine VL_pure 24 [3] [(3, .bool (((((spanB c.peak 1) && (spanB c.early 0)) && (c.whole == 0)) && (c.burst == 0)) && ((c.least == 0) || (spanB c.least c.peak))))] (by kernel_rfl) rfl ?_
     refine VL_end (by kernel_rfl) ?_
     refine VQ_block_normal ?_
     refine VQ_next ?_
     refine VC_seq ?_
     refine VC_seq ?_
     have hE : (((((spanB c.peak 1) && (spanB c.early 0)) && (c.whole == 0)) && (c.burst == 0)) && ((c.least == 0) || (spanB c.least c.peak))) = (rightC c == 0) := right_abr (by omega)
     refine VC_eqL [(3, .bool ((rightC c) == 0))] (by rw [hE]) ?_
     refine VC_region ?_
     refine VL_pure 2 [82] [(82, .bool (!((rightC c) == 0)))] (by kernel_rfl) rfl ?_
     refine VL_end (by kernel_rfl) ?_
     refine VQ_next ?_
     refine VC_cond (!((rightC c) == 0)) (by kernel_rfl) (fun h30 => ?_) (fun h30 => ?_)
     ·try simp only [Bool.and_eq_true, Bool.or_eq_true, decide_eq_true_eq, Bool.not_eq_true', decide_eq_false_iff_not, Bool.and_eq_false_iff, Bool.or_eq_false_iff, beq_iff_eq, bne_iff_ne, beq_eq_false_iff_ne, bne_eq_false_iff_eq, Bool.not_eq_eq_eq_not, Bool.not_true, Bool.not_false] at h30
      refine VC_seq ?_
      refine VC_region ?_
      refine VL_pure 1 [2] [(2, .int .i64 11)] (by kernel_rfl) rfl ?_
      refine VL_end (by kernel_rfl) ?_
      refine VQ_next ?_
      refine VC_ret ?_
      refine VQ_then_ret ?_
      refine VQ_ret1 (.int .i64 11) (.inr rfl) rfl rfl ?_
      exact ⟨congrArg (Value.int .i64) (by first | exact Eq.symm (by assumption) | exact right11 (by omega) (by omega) (by assumption) | exact right12 (by omega)), hS⟩
     ·try simp only [Bool.and_eq_true, Bool.or_eq_true, decide_eq_true_eq, Bool.not_eq_true', decide_eq_false_iff_not, Bool.and_eq_false_iff, Bool.or_eq_false_iff, beq_iff_eq, bne_iff_ne, beq_eq_false_iff_ne, bne_eq_false_iff_eq, Bool.not_eq_eq_eq_not, Bool.not_true, Bool.not_false] at h30
      refine VC_skip ?_
      refine VQ_next ?_
      refine VC_seq ?_
      refine VC_region ?_
      refine VL_pure 1 [2] [(2, .int .i64 0)] (by kernel_rfl) rfl ?_
      refine VL_end (by kernel_rfl) ?_
      refine VQ_next ?_
      refine VC_ret ?_
      refine VQ_ret1 (.int .i64 0) (.inr rfl) rfl rfl ?_
      exact ⟨congrArg (Value.int .i64) (by first | exact Eq.symm (by assumption) | exact right11 (by omega) (by omega) (by assumption) | exact right12 (by omega)), hS⟩
    ·refine VC_seq ?_
     refine VC_seq ?_
     refine VC_region ?_
     refine VL_pure 2 [1, 3, 13, 61] [(1, .pointer (some ⟨b1, 0, none⟩)), (3, .bool ((spanB c.peak 1) && (spanB c.early 0))), (13, .int .i64 c.kind), (61, .bool (c.kind == 1))] (by kernel_rfl) rfl ?_
     refine VL_end (by kernel_rfl) ?_
     refine VQ_next ?_
     refine VC_eq c.kind 1 (by kernel_rfl) (fun h31 => ?_) (fun h31 => ?_)
     ·refine VC_skip ?_
      refine VQ_next ?_
      refine VC_eq c.kind 1 (by kernel_rfl) (fun h32 => ?_) (fun h32 => ?_)
      ·refine VC_region ?_
       refine VL_pure 2 [1, 66] [(1, .pointer (some ⟨b1, 0, none⟩)), (66, .bool ((spanB c.peak 1) && (spanB c.early 0)))] (by kernel_rfl) rfl ?_
       refine VL_join ((spanB c.peak 1) && (spanB c.early 0)) (fun bV => [(1, .pointer (some ⟨b1, 0, none⟩)), (66, .bool bV)]) 6 [(1, .pointer (some ⟨b1, 0, none⟩)), (70, .bool (((spanB c.peak 1) && (spanB c.early 0)) && (c.whole == 0)))] rfl (fun hg41 J41 => ?_) (fun hg41 J41 => ?_) ?_
       ·refine VL_pure 3 [1, 66, 67] [(1, .pointer (some ⟨b1, 0, none⟩)), (66, .bool true), (67, .pointer (some ⟨b1, 3, none⟩))] (by kernel_rfl) rfl ?_
        refine VL_load (d := 68) (t := 3) (a := ⟨b1, 3, none⟩) (v := .int .i64 c.whole) (by kernel_rfl) (by kernel_rfl) (Loads.own1 ho1 (by kernel_rfl) (by rfl)) ?_
        refine VL_pure 6 [1, 70] [(1, .pointer (some ⟨b1, 0, none⟩)), (70, .bool (c.whole == 0))] (by kernel_rfl) rfl ?_
        exact VL_eq _ (by simp only [hg41, Bool.true_and, Bool.false_and, Bool.true_or, Bool.false_or, Bool.not_true, Bool.not_false]) J41
       ·refine VL_pure 6 [1, 70] [(1, .pointer (some ⟨b1, 0, none⟩)), (70, .bool false)] (by kernel_rfl) rfl ?_
        exact VL_eq _ (by simp only [hg41, Bool.true_and, Bool.false_and, Bool.true_or, Bool.false_or, Bool.not_true, Bool.not_false]) J41
       refine VL_pure 7 [1, 71] [(1, .pointer (some ⟨b1, 0, none⟩)), (71, .bool (((spanB c.peak 1) && (spanB c.early 0)) && (c.whole == 0)))] (by kernel_rfl) rfl ?_
       refine VL_join (((spanB c.peak 1) && (spanB c.early 0)) && (c.whole == 0)) (fun bV => [(1, .pointer (some ⟨b1, 0, none⟩)), (71, .bool bV)]) 11 [(1, .pointer (some ⟨b1, 0, none⟩)), (75, .bool ((((spanB c.peak 1) && (spanB c.early 0)) && (c.whole == 0)) && (c.burst == 0)))] rfl (fun hg42 J42 => ?_) (fun hg42 J42 => ?_) ?_
       ·refine VL_pure 8 [1, 71, 72] [(1, .pointer (some ⟨b1, 0, none⟩)), (71, .bool true), (72, .pointer (some ⟨b1, 4, none⟩))] (by kernel_rfl) rfl ?_
        refine VL_load (d := 73) (t := 3) (a := ⟨b1, 4, none⟩) (v := .int .i64 c.burst) (by kernel_rfl) (by kernel_rfl) (Loads.own1 ho1 (by kernel_rfl) (by rfl)) ?_
        refine VL_pure 11 [1, 75] [(1, .pointer (some ⟨b1, 0, none⟩)), (75, .bool (c.burst == 0))] (by kernel_rfl) rfl ?_
        exact VL_eq _ (by simp only [hg42, Bool.true_and, Bool.false_and, Bool.true_or, Bool.false_or, Bool.not_true, Bool.not_false]) J42
       ·refine VL_pure 11 [1, 75] [(1, .pointer (some ⟨b1, 0, none⟩)), (75, .bool false)] (by kernel_rfl) rfl ?_
        exact VL_eq _ (by simp only [hg42, Bool.true_and, Bool.false_and, Bool.true_or, Bool.false_or, Bool.not_true, Bool.not_false]) J42
       refine VL_pure 12 [1, 76] [(1, .pointer (some ⟨b1, 0, none⟩)), (76, .bool ((((spanB c.peak 1) && (spanB c.early 0)) && (c.whole == 0)) && (c.burst == 0)))] (by kernel_rfl) rfl ?_
       refine VL_join ((((spanB c.peak 1) && (spanB c.early 0)) && (c.whole == 0)) && (c.burst == 0)) (fun bV => [(1, .pointer (some ⟨b1, 0, none⟩)), (76, .bool bV)]) 16 [(80, .bool (((((spanB c.peak 1) && (spanB c.early 0)) && (c.whole == 0)) && (c.burst == 0)) && (c.least == 0)))] rfl (fun hg43 J43 => ?_) (fun hg43 J43 => ?_) ?_
       ·refine VL_pure 13 [76, 77] [(76, .bool true), (77, .pointer (some ⟨b1, 5, none⟩))] (by kernel_rfl) rfl ?_
        refine VL_load (d := 78) (t := 3) (a := ⟨b1, 5, none⟩) (v := .int .i64 c.least) (by kernel_rfl) (by kernel_rfl) (Loads.own1 ho1 (by kernel_rfl) (by rfl)) ?_
        refine VL_pure 16 [80] [(80, .bool (c.least == 0))] (by kernel_rfl) rfl ?_
        exact VL_eq _ (by simp only [hg43, Bool.true_and, Bool.false_and, Bool.true_or, Bool.false_or, Bool.not_true, Bool.not_false]) J43
       ·refine VL_pure 16 [80] [(80, .bool false)] (by kernel_rfl) rfl ?_
        exact VL_eq _ (by simp only [hg43, Bool.true_and, Bool.false_and, Bool.true_or, Bool.false_or, Bool.not_true, Bool.not_false]) J43
       refine VL_pure 17 [3] [(3, .bool (((((spanB c.peak 1) && (spanB c.early 0)) && (c.whole == 0)) && (c.burst == 0)) && (c.least == 0)))] (by kernel_rfl) rfl ?_
       refine VL_end (by kernel_rfl) ?_
       refine VQ_block_normal ?_
       refine VQ_next ?_
       refine VC_seq ?_
       refine VC_seq ?_
       have hE : (((((spanB c.peak 1) && (spanB c.early 0)) && (c.whole == 0)) && (c.burst == 0)) && (c.least == 0)) = (rightC c == 0) := right_cbr (by omega)
       refine VC_eqL [(3, .bool ((rightC c) == 0))] (by rw [hE]) ?_
       refine VC_region ?_
       refine VL_pure 2 [82] [(82, .bool (!((rightC c) == 0)))] (by kernel_rfl) rfl ?_
       refine VL_end (by kernel_rfl) ?_
       refine VQ_next ?_
       refine VC_cond (!((rightC c) == 0)) (by kernel_rfl) (fun h33 => ?_) (fun h33 => ?_)
       ·try simp only [Bool.and_eq_true, Bool.or_eq_true, decide_eq_true_eq, Bool.not_eq_true', decide_eq_false_iff_not, Bool.and_eq_false_iff, Bool.or_eq_false_iff, beq_iff_eq, bne_iff_ne, beq_eq_false_iff_ne, bne_eq_false_iff_eq, Bool.not_eq_eq_eq_not, Bool.not_true, Bool.not_false] at h33
        refine VC_seq ?_
        refine VC_region ?_
        refine VL_pure 1 [2] [(2, .int .i64 11)] (by kernel_rfl) rfl ?_
        refine VL_end (by kernel_rfl) ?_
        refine VQ_next ?_
        refine VC_ret ?_
        refine VQ_then_ret ?_
        refine VQ_ret1 (.int .i64 11) (.inr rfl) rfl rfl ?_
        exact ⟨congrArg (Value.int .i64) (by first | exact Eq.symm (by assumption) | exact right11 (by omega) (by omega) (by assumption) | exact right12 (by omega)), hS⟩
       ·try simp only [Bool.and_eq_true, Bool.or_eq_true, decide_eq_true_eq, Bool.not_eq_true', decide_eq_false_iff_not, Bool.and_eq_false_iff, Bool.or_eq_false_iff, beq_iff_eq, bne_iff_ne, beq_eq_false_iff_ne, bne_eq_false_iff_eq, Bool.not_eq_eq_eq_not, Bool.not_true, Bool.not_false] at h33
        refine VC_skip ?_
        refine VQ_next ?_
        refine VC_seq ?_
        refine VC_region ?_
        refine VL_pure 1 [2] [(2, .int .i64 0)] (by kernel_rfl) rfl ?_
        refine VL_end (by kernel_rfl) ?_
        refine VQ_next ?_
        refine VC_ret ?_
        refine VQ_ret1 (.int .i64 0) (.inr rfl) rfl rfl ?_
        exact ⟨congrArg (Value.int .i64) (by first | exact Eq.symm (by assumption) | exact right11 (by omega) (by omega) (by assumption) | exact right12 (by omega)), hS⟩
      ·refine VC_seq ?_
       refine VC_region ?_
       refine VL_pure 1 [2] [(2, .int .i64 12)] (by kernel_rfl) rfl ?_
       refine VL_end (by kernel_rfl) ?_
       refine VQ_next ?_
       refine VC_ret ?_
       refine VQ_block_ret ?_
       refine VQ_then_ret ?_
       refine VQ_ret1 (.int .i64 12) (.inr rfl) rfl rfl ?_
       exact ⟨congrArg (Value.int .i64) (by first | exact Eq.symm (by assumption) | exact right11 (by omega) (by omega) (by assumption) | exact right12 (by omega)), hS⟩
     ·refine VC_seq ?_
      refine VC_region ?_
      refine VL_pure 2 [1, 3, 13, 61] [(1, .pointer (some ⟨b1, 0, none⟩)), (3, .bool ((spanB c.peak 1) && (spanB c.early 0))), (13, .int .i64 c.kind), (61, .bool (c.kind == 6))] (by kernel_rfl) rfl ?_
      refine VL_end (by kernel_rfl) ?_
      refine VQ_next ?_
      refine VC_eq c.kind 6 (by kernel_rfl) (fun h34 => ?_) (fun h34 => ?_)
      ·refine VC_skip ?_
       refine VQ_next ?_
       refine VC_eq c.kind 6 (by kernel_rfl) (fun h35 => ?_) (fun h35 => ?_)
       ·refine VC_region ?_
        refine VL_pure 2 [1, 66] [(1, .pointer (some ⟨b1, 0, none⟩)), (66, .bool ((spanB c.peak 1) && (spanB c.early 0)))] (by kernel_rfl) rfl ?_
        refine VL_join ((spanB c.peak 1) && (spanB c.early 0)) (fun bV => [(1, .pointer (some ⟨b1, 0, none⟩)), (66, .bool bV)]) 6 [(1, .pointer (some ⟨b1, 0, none⟩)), (70, .bool (((spanB c.peak 1) && (spanB c.early 0)) && (c.whole == 0)))] rfl (fun hg44 J44 => ?_) (fun hg44 J44 => ?_) ?_
        ·refine VL_pure 3 [1, 66, 67] [(1, .pointer (some ⟨b1, 0, none⟩)), (66, .bool true), (67, .pointer (some ⟨b1, 3, none⟩))] (by kernel_rfl) rfl ?_
         refine VL_load (d := 68) (t := 3) (a := ⟨b1, 3, none⟩) (v := .int .i64 c.whole) (by kernel_rfl) (by kernel_rfl) (Loads.own1 ho1 (by kernel_rfl) (by rfl)) ?_
         refine VL_pure 6 [1, 70] [(1, .pointer (some ⟨b1, 0, none⟩)), (70, .bool (c.whole == 0))] (by kernel_rfl) rfl ?_
         exact VL_eq _ (by simp only [hg44, Bool.true_and, Bool.false_and, Bool.true_or, Bool.false_or, Bool.not_true, Bool.not_false]) J44
        ·refine VL_pure 6 [1, 70] [(1, .pointer (some ⟨b1, 0, none⟩)), (70, .bool false)] (by kernel_rfl) rfl ?_
         exact VL_eq _ (by simp only [hg44, Bool.true_and, Bool.false_and, Bool.true_or, Bool.false_or, Bool.not_true, Bool.not_false]) J44
        refine VL_pure 7 [1, 71] [(1, .pointer (some ⟨b1, 0, none⟩)), (71, .bool (((spanB c.peak 1) && (spanB c.early 0)) && (c.whole == 0)))] (by kernel_rfl) rfl ?_
        refine VL_join (((spanB c.peak 1) && (spanB c.early 0)) && (c.whole == 0)) (fun bV => [(1, .pointer (some ⟨b1, 0, none⟩)), (71, .bool bV)]) 11 [(1, .pointer (some ⟨b1, 0, none⟩)), (75, .bool ((((spanB c.peak 1) && (spanB c.early 0)) && (c.whole == 0)) && (c.burst == 0)))] rfl (fun hg45 J45 => ?_) (fun hg45 J45 => ?_) ?_
        ·refine VL_pure 8 [1, 71, 72] [(1, .pointer (some ⟨b1, 0, none⟩)), (71, .bool true), (72, .pointer (some ⟨b1, 4, none⟩))] (by kernel_rfl) rfl ?_
         refine VL_load (d := 73) (t := 3) (a := ⟨b1, 4, none⟩) (v := .int .i64 c.burst) (by kernel_rfl) (by kernel_rfl) (Loads.own1 ho1 (by kernel_rfl) (by rfl)) ?_
         refine VL_pure 11 [1, 75] [(1, .pointer (some ⟨b1, 0, none⟩)), (75, .bool (c.burst == 0))] (by kernel_rfl) rfl ?_
         exact VL_eq _ (by simp only [hg45, Bool.true_and, Bool.false_and, Bool.true_or, Bool.false_or, Bool.not_true, Bool.not_false]) J45
        ·refine VL_pure 11 [1, 75] [(1, .pointer (some ⟨b1, 0, none⟩)), (75, .bool false)] (by kernel_rfl) rfl ?_
         exact VL_eq _ (by simp only [hg45, Bool.true_and, Bool.false_and, Bool.true_or, Bool.false_or, Bool.not_true, Bool.not_false]) J45
        refine VL_pure 12 [1, 76] [(1, .pointer (some ⟨b1, 0, none⟩)), (76, .bool ((((spanB c.peak 1) && (spanB c.early 0)) && (c.whole == 0)) && (c.burst == 0)))] (by kernel_rfl) rfl ?_
        refine VL_join ((((spanB c.peak 1) && (spanB c.early 0)) && (c.whole == 0)) && (c.burst == 0)) (fun bV => [(1, .pointer (some ⟨b1, 0, none⟩)), (76, .bool bV)]) 16 [(80, .bool (((((spanB c.peak 1) && (spanB c.early 0)) && (c.whole == 0)) && (c.burst == 0)) && (c.least == 0)))] rfl (fun hg46 J46 => ?_) (fun hg46 J46 => ?_) ?_
        ·refine VL_pure 13 [76, 77] [(76, .bool true), (77, .pointer (some ⟨b1, 5, none⟩))] (by kernel_rfl) rfl ?_
         refine VL_load (d := 78) (t := 3) (a := ⟨b1, 5, none⟩) (v := .int .i64 c.least) (by kernel_rfl) (by kernel_rfl) (Loads.own1 ho1 (by kernel_rfl) (by rfl)) ?_
         refine VL_pure 16 [80] [(80, .bool (c.least == 0))] (by kernel_rfl) rfl ?_
         exact VL_eq _ (by simp only [hg46, Bool.true_and, Bool.false_and, Bool.true_or, Bool.false_or, Bool.not_true, Bool.not_false]) J46
        ·refine VL_pure 16 [80] [(80, .bool false)] (by kernel_rfl) rfl ?_
         exact VL_eq _ (by simp only [hg46, Bool.true_and, Bool.false_and, Bool.true_or, Bool.false_or, Bool.not_true, Bool.not_false]) J46
        refine VL_pure 17 [3] [(3, .bool (((((spanB c.peak 1) && (spanB c.early 0)) && (c.whole == 0)) && (c.burst == 0)) && (c.least == 0)))] (by kernel_rfl) rfl ?_
        refine VL_end (by kernel_rfl) ?_
        refine VQ_block_normal ?_
        refine VQ_next ?_
        refine VC_seq ?_
        refine VC_seq ?_
        have hE : (((((spanB c.peak 1) && (spanB c.early 0)) && (c.whole == 0)) && (c.burst == 0)) && (c.least == 0)) = (rightC c == 0) := right_cbr (by omega)
        refine VC_eqL [(3, .bool ((rightC c) == 0))] (by rw [hE]) ?_
        refine VC_region ?_
        refine VL_pure 2 [82] [(82, .bool (!((rightC c) == 0)))] (by kernel_rfl) rfl ?_
        refine VL_end (by kernel_rfl) ?_
        refine VQ_next ?_
        refine VC_cond (!((rightC c) == 0)) (by kernel_rfl) (fun h36 => ?_) (fun h36 => ?_)
        ·try simp only [Bool.and_eq_true, Bool.or_eq_true, decide_eq_true_eq, Bool.not_eq_true', decide_eq_false_iff_not, Bool.and_eq_false_iff, Bool.or_eq_false_iff, beq_iff_eq, bne_iff_ne, beq_eq_false_iff_ne, bne_eq_false_iff_eq, Bool.not_eq_eq_eq_not, Bool.not_true, Bool.not_false] at h36
         refine VC_seq ?_
         refine VC_region ?_
         refine VL_pure 1 [2] [(2, .int .i64 11)] (by kernel_rfl) rfl ?_
         refine VL_end (by kernel_rfl) ?_
         refine VQ_next ?_
         refine VC_ret ?_
         refine VQ_then_ret ?_
         refine VQ_ret1 (.int .i64 11) (.inr rfl) rfl rfl ?_
         exact ⟨congrArg (Value.int .i64) (by first | exact Eq.symm (by assumption) | exact right11 (by omega) (by omega) (by assumption) | exact right12 (by omega)), hS⟩
        ·try simp only [Bool.and_eq_true, Bool.or_eq_true, decide_eq_true_eq, Bool.not_eq_true', decide_eq_false_iff_not, Bool.and_eq_false_iff, Bool.or_eq_false_iff, beq_iff_eq, bne_iff_ne, beq_eq_false_iff_ne, bne_eq_false_iff_eq, Bool.not_eq_eq_eq_not, Bool.not_true, Bool.not_false] at h36
         refine VC_skip ?_
         refine VQ_next ?_
         refine VC_seq ?_
         refine VC_region ?_
         refine VL_pure 1 [2] [(2, .int .i64 0)] (by kernel_rfl) rfl ?_
         refine VL_end (by kernel_rfl) ?_
         refine VQ_next ?_
         refine VC_ret ?_
         refine VQ_ret1 (.int .i64 0) (.inr rfl) rfl rfl ?_
         exact ⟨congrArg (Value.int .i64) (by first | exact Eq.symm (by assumption) | exact right11 (by omega) (by omega) (by assumption) | exact right12 (by omega)), hS⟩
       ·refine VC_seq ?_
        refine VC_region ?_
        refine VL_pure 1 [2] [(2, .int .i64 12)] (by kernel_rfl) rfl ?_
        refine VL_end (by kernel_rfl) ?_
        refine VQ_next ?_
        refine VC_ret ?_
        refine VQ_block_ret ?_
        refine VQ_then_ret ?_
        refine VQ_ret1 (.int .i64 12) (.inr rfl) rfl rfl ?_
        exact ⟨congrArg (Value.int .i64) (by first | exact Eq.symm (by assumption) | exact right11 (by omega) (by omega) (by assumption) | exact right12 (by omega)), hS⟩
      ·refine VC_region ?_
       refine VL_pure 2 [1, 3, 61] [(1, .pointer (some ⟨b1, 0, none⟩)), (3, .bool ((spanB c.peak 1) && (spanB c.early 0))), (61, .bool (c.kind == 7))] (by kernel_rfl) rfl ?_
       refine VL_end (by kernel_rfl) ?_
       refine VQ_next ?_
       refine VC_eq c.kind 7 (by kernel_rfl) (fun h37 => ?_) (fun h37 => ?_)
       ·refine VC_region ?_
        refine VL_pure 2 [1, 66] [(1, .pointer (some ⟨b1, 0, none⟩)), (66, .bool ((spanB c.peak 1) && (spanB c.early 0)))] (by kernel_rfl) rfl ?_
        refine VL_join ((spanB c.peak 1) && (spanB c.early 0)) (fun bV => [(1, .pointer (some ⟨b1, 0, none⟩)), (66, .bool bV)]) 6 [(1, .pointer (some ⟨b1, 0, none⟩)), (70, .bool (((spanB c.peak 1) && (spanB c.early 0)) && (c.whole == 0)))] rfl (fun hg47 J47 => ?_) (fun hg47 J47 => ?_) ?_
        ·refine VL_pure 3 [1, 66, 67] [(1, .pointer (some ⟨b1, 0, none⟩)), (66, .bool true), (67, .pointer (some ⟨b1, 3, none⟩))] (by kernel_rfl) rfl ?_
         refine VL_load (d := 68) (t := 3) (a := ⟨b1, 3, none⟩) (v := .int .i64 c.whole) (by kernel_rfl) (by kernel_rfl) (Loads.own1 ho1 (by kernel_rfl) (by rfl)) ?_
         refine VL_pure 6 [1, 70] [(1, .pointer (some ⟨b1, 0, none⟩)), (70, .bool (c.whole == 0))] (by kernel_rfl) rfl ?_
         exact VL_eq _ (by simp only [hg47, Bool.true_and, Bool.false_and, Bool.true_or, Bool.false_or, Bool.not_true, Bool.not_false]) J47
        ·refine VL_pure 6 [1, 70] [(1, .pointer (some ⟨b1, 0, none⟩)), (70, .bool false)] (by kernel_rfl) rfl ?_
         exact VL_eq _ (by simp only [hg47, Bool.true_and, Bool.false_and, Bool.true_or, Bool.false_or, Bool.not_true, Bool.not_false]) J47
        refine VL_pure 7 [1, 71] [(1, .pointer (some ⟨b1, 0, none⟩)), (71, .bool (((spanB c.peak 1) && (spanB c.early 0)) && (c.whole == 0)))] (by kernel_rfl) rfl ?_
        refine VL_join (((spanB c.peak 1) && (spanB c.early 0)) && (c.whole == 0)) (fun bV => [(1, .pointer (some ⟨b1, 0, none⟩)), (71, .bool bV)]) 11 [(1, .pointer (some ⟨b1, 0, none⟩)), (75, .bool ((((spanB c.peak 1) && (spanB c.early 0)) && (c.whole == 0)) && (c.burst == 0)))] rfl (fun hg48 J48 => ?_) (fun hg48 J48 => ?_) ?_
        ·refine VL_pure 8 [1, 71, 72] [(1, .pointer (some ⟨b1, 0, none⟩)), (71, .bool true), (72, .pointer (some ⟨b1, 4, none⟩))] (by kernel_rfl) rfl ?_
         refine VL_load (d := 73) (t := 3) (a := ⟨b1, 4, none⟩) (v := .int .i64 c.burst) (by kernel_rfl) (by kernel_rfl) (Loads.own1 ho1 (by kernel_rfl) (by rfl)) ?_
         refine VL_pure 11 [1, 75] [(1, .pointer (some ⟨b1, 0, none⟩)), (75, .bool (c.burst == 0))] (by kernel_rfl) rfl ?_
         exact VL_eq _ (by simp only [hg48, Bool.true_and, Bool.false_and, Bool.true_or, Bool.false_or, Bool.not_true, Bool.not_false]) J48
        ·refine VL_pure 11 [1, 75] [(1, .pointer (some ⟨b1, 0, none⟩)), (75, .bool false)] (by kernel_rfl) rfl ?_
         exact VL_eq _ (by simp only [hg48, Bool.true_and, Bool.false_and, Bool.true_or, Bool.false_or, Bool.not_true, Bool.not_false]) J48
        refine VL_pure 12 [1, 76] [(1, .pointer (some ⟨b1, 0, none⟩)), (76, .bool ((((spanB c.peak 1) && (spanB c.early 0)) && (c.whole == 0)) && (c.burst == 0)))] (by kernel_rfl) rfl ?_
        refine VL_join ((((spanB c.peak 1) && (spanB c.early 0)) && (c.whole == 0)) && (c.burst == 0)) (fun bV => [(1, .pointer (some ⟨b1, 0, none⟩)), (76, .bool bV)]) 16 [(80, .bool (((((spanB c.peak 1) && (spanB c.early 0)) && (c.whole == 0)) && (c.burst == 0)) && (c.least == 0)))] rfl (fun hg49 J49 => ?_) (fun hg49 J49 => ?_) ?_
        ·refine VL_pure 13 [76, 77] [(76, .bool true), (77, .pointer (some ⟨b1, 5, none⟩))] (by kernel_rfl) rfl ?_
         refine VL_load (d := 78) (t := 3) (a := ⟨b1, 5, none⟩) (v := .int .i64 c.least) (by kernel_rfl) (by kernel_rfl) (Loads.own1 ho1 (by kernel_rfl) (by rfl)) ?_
         refine VL_pure 16 [80] [(80, .bool (c.least == 0))] (by kernel_rfl) rfl ?_
         exact VL_eq _ (by simp only [hg49, Bool.true_and, Bool.false_and, Bool.true_or, Bool.false_or, Bool.not_true, Bool.not_false]) J49
        ·refine VL_pure 16 [80] [(80, .bool false)] (by kernel_rfl) rfl ?_
         exact VL_eq _ (by simp only [hg49, Bool.true_and, Bool.false_and, Bool.true_or, Bool.false_or, Bool.not_true, Bool.not_false]) J49
        refine VL_pure 17 [3] [(3, .bool (((((spanB c.peak 1) && (spanB c.early 0)) && (c.whole == 0)) && (c.burst == 0)) && (c.least == 0)))] (by kernel_rfl) rfl ?_
        refine VL_end (by kernel_rfl) ?_
        refine VQ_block_normal ?_
        refine VQ_next ?_
        refine VC_seq ?_
        refine VC_seq ?_
        have hE : (((((spanB c.peak 1) && (spanB c.early 0)) && (c.whole == 0)) && (c.burst == 0)) && (c.least == 0)) = (rightC c == 0) := right_cbr (by omega)
        refine VC_eqL [(3, .bool ((rightC c) == 0))] (by rw [hE]) ?_
        refine VC_region ?_
        refine VL_pure 2 [82] [(82, .bool (!((rightC c) == 0)))] (by kernel_rfl) rfl ?_
        refine VL_end (by kernel_rfl) ?_
        refine VQ_next ?_
        refine VC_cond (!((rightC c) == 0)) (by kernel_rfl) (fun h38 => ?_) (fun h38 => ?_)
        ·try simp only [Bool.and_eq_true, Bool.or_eq_true, decide_eq_true_eq, Bool.not_eq_true', decide_eq_false_iff_not, Bool.and_eq_false_iff, Bool.or_eq_false_iff, beq_iff_eq, bne_iff_ne, beq_eq_false_iff_ne, bne_eq_false_iff_eq, Bool.not_eq_eq_eq_not, Bool.not_true, Bool.not_false] at h38
         refine VC_seq ?_
         refine VC_region ?_
         refine VL_pure 1 [2] [(2, .int .i64 11)] (by kernel_rfl) rfl ?_
         refine VL_end (by kernel_rfl) ?_
         refine VQ_next ?_
         refine VC_ret ?_
         refine VQ_then_ret ?_
         refine VQ_ret1 (.int .i64 11) (.inr rfl) rfl rfl ?_
         exact ⟨congrArg (Value.int .i64) (by first | exact Eq.symm (by assumption) | exact right11 (by omega) (by omega) (by assumption) | exact right12 (by omega)), hS⟩
        ·try simp only [Bool.and_eq_true, Bool.or_eq_true, decide_eq_true_eq, Bool.not_eq_true', decide_eq_false_iff_not, Bool.and_eq_false_iff, Bool.or_eq_false_iff, beq_iff_eq, bne_iff_ne, beq_eq_false_iff_ne, bne_eq_false_iff_eq, Bool.not_eq_eq_eq_not, Bool.not_true, Bool.not_false] at h38
         refine VC_skip ?_
         refine VQ_next ?_
         refine VC_seq ?_
         refine VC_region ?_
         refine VL_pure 1 [2] [(2, .int .i64 0)] (by kernel_rfl) rfl ?_
         refine VL_end (by kernel_rfl) ?_
         refine VQ_next ?_
         refine VC_ret ?_
         refine VQ_ret1 (.int .i64 0) (.inr rfl) rfl rfl ?_
         exact ⟨congrArg (Value.int .i64) (by first | exact Eq.symm (by assumption) | exact right11 (by omega) (by omega) (by assumption) | exact right12 (by omega)), hS⟩
       ·refine VC_seq ?_
        refine VC_region ?_
        refine VL_pure 1 [2] [(2, .int .i64 12)] (by kernel_rfl) rfl ?_
        refine VL_end (by kernel_rfl) ?_
        refine VQ_next ?_
        refine VC_ret ?_
        refine VQ_block_ret ?_
        refine VQ_then_ret ?_
        refine VQ_ret1 (.int .i64 12) (.inr rfl) rfl rfl ?_
        exact ⟨congrArg (Value.int .i64) (by first | exact Eq.symm (by assumption) | exact right11 (by omega) (by omega) (by assumption) | exact right12 (by omega)), hS⟩

set_option maxRecDepth 100000 in
set_option maxHeartbeats 4000000 in
theorem always_any (c : Con) (w : World) :
  CV Try.prog 57 #[.agg #[.int .i64 c.kind, .int .i64 c.peak, .int .i64 c.early, .int .i64 c.whole, .int .i64 c.burst, .int .i64 c.least]] w (fun x w1 => x = .bool (alwaysC c) ∧ Step No w w1) := by
 have hS : Step No w w := Step.refl _ _
 refine CV_enter Try.f57 _ 11 [(0, .agg #[.int .i64 c.kind, .int .i64 c.peak, .int .i64 c.early, .int .i64 c.whole, .int .i64 c.burst, .int .i64 c.least])] Try.func57 rfl rfl (by kernel_rfl) rfl ?_
 refine VC_seq ?_
 refine VC_region ?_
 have hzs1 := hS.size
 refine VL_box (d := 1) (t := 30) (c := #[.int .i64 c.kind, .int .i64 c.peak, .int .i64 c.early, .int .i64 c.whole, .int .i64 c.burst, .int .i64 c.least]) (by kernel_rfl) (by kernel_rfl) ?_
 intro b1 w1 hn1
 replace hS := Step.trans hS (hn1.step No)
 have ho1 := hn1.own
 have hzhn1 := hn1.size
 have hqhn1 := hn1.eqb
 refine VL_pure 2 [1] [(1, .pointer (some ⟨b1, 0, none⟩))] (by kernel_rfl) rfl ?_
 refine VL_end (by kernel_rfl) ?_
 refine VQ_next ?_
 refine VC_seq ?_
 refine VC_region ?_
 refine VL_pure 1 [1, 3] [(1, .pointer (some ⟨b1, 0, none⟩)), (3, .pointer (some ⟨b1, 0, none⟩))] (by kernel_rfl) rfl ?_
 refine VL_load (d := 4) (t := 3) (a := ⟨b1, 0, none⟩) (v := .int .i64 c.kind) (by kernel_rfl) (by kernel_rfl) (Loads.own1 ho1 (by kernel_rfl) (by rfl)) ?_
 refine VL_pure 4 [1, 6] [(1, .pointer (some ⟨b1, 0, none⟩)), (6, .bool (c.kind == 7))] (by kernel_rfl) rfl ?_
 refine VL_beq c.kind 7 (fun bV => [(1, .pointer (some ⟨b1, 0, none⟩)), (6, .bool bV)]) rfl (fun hg1 => ?_) (fun hg1 => ?_)
 ·refine VL_load (d := 7) (t := 30) (a := ⟨b1, 0, none⟩) (v := .agg #[.int .i64 c.kind, .int .i64 c.peak, .int .i64 c.early, .int .i64 c.whole, .int .i64 c.burst, .int .i64 c.least]) (by kernel_rfl) (by kernel_rfl) (Loads.ownL ho1 (n := 6) (by kernel_rfl) (by kernel_rfl) (by kernel_rfl)) ?_
  have hzs2 := hS.size
  have hzl1 := ho1.lt
  refine VL_call (d := 8) (f := 13) (args := #[.agg #[.int .i64 c.kind, .int .i64 c.peak, .int .i64 c.early, .int .i64 c.whole, .int .i64 c.burst, .int .i64 c.least]]) (by kernel_rfl) (by kernel_rfl) (by kernel_rfl) Try.call13 (cright_any c _) ?_
  rintro _ w2 ⟨rfl, hc1⟩
  replace hS := Step.trans hS hc1
  replace ho1 := ho1.no hc1
  refine VL_pure 9 [2] [(2, .bool ((rightC c) == 0))] (by kernel_rfl) rfl ?_
  refine VL_end (by kernel_rfl) ?_
  refine VQ_next ?_
  refine VC_ret ?_
  refine VQ_ret1 (.bool ((rightC c) == 0)) (.inr rfl) rfl rfl ?_
  exact ⟨congrArg Value.bool (by first | exact always_no (by assumption) | exact always_yes (by assumption)), hS⟩
 ·refine VL_pure 9 [2] [(2, .bool false)] (by kernel_rfl) rfl ?_
  refine VL_end (by kernel_rfl) ?_
  refine VQ_next ?_
  refine VC_ret ?_
  refine VQ_ret1 (.bool false) (.inr rfl) rfl rfl ?_
  exact ⟨congrArg Value.bool (by first | exact always_no (by assumption) | exact always_yes (by assumption)), hS⟩

theorem num_eq {c : Con} (h1 : 0 ≤ perC c.whole * 4096 ∧ perC c.whole * 4096 ≤ 4294967296) (h2 : 0 ≤ perC c.peak * c.burst ∧ perC c.peak * c.burst ≤ 1152921504606846976) : IntKind.wrap .i64 (IntKind.wrap .i64 (perC c.whole * 4096) + IntKind.wrap .i64 (perC c.peak * c.burst)) = perC c.whole * 4096 + perC c.peak * c.burst := by
  rw [wrap_i64 (perC c.whole * 4096) (by omega) (by omega), wrap_i64 (perC c.peak * c.burst) (by omega) (by omega), wrap_i64 _ (by omega) (by omega)]
theorem bur_eq {c : Con} (h : 0 ≤ c.burst ∧ c.burst ≤ 1099511627776) : IntKind.wrap .i64 (c.burst + 4096) = c.burst + 4096 := wrap_i64 _ (by omega) (by omega)
theorem up_ce {c : Con} (h1 : 0 ≤ perC c.whole * 4096 ∧ perC c.whole * 4096 ≤ 4294967296) (h2 : 0 ≤ perC c.peak * c.burst ∧ perC c.peak * c.burst ≤ 1152921504606846976) (h3 : 0 ≤ c.burst ∧ c.burst ≤ 1099511627776) : CE Try.prog 30 #[.int .i64 (IntKind.wrap .i64 (IntKind.wrap .i64 (perC c.whole * 4096) + IntKind.wrap .i64 (perC c.peak * c.burst))), .int .i64 (IntKind.wrap .i64 (c.burst + 4096))] (.int .i64 (upC (perC c.whole * 4096 + perC c.peak * c.burst) (c.burst + 4096))) := by
  intro w
  rw [num_eq h1 h2, bur_eq h3]
  exact up_w _ _ (by omega) (by omega) (by omega) (by omega) w
set_option maxRecDepth 100000 in
set_option maxHeartbeats 4000000 in
theorem need_any (c : Con) (w : World) :
  CV Try.prog 14 #[.agg #[.int .i64 c.kind, .int .i64 c.peak, .int .i64 c.early, .int .i64 c.whole, .int .i64 c.burst, .int .i64 c.least]] w (fun x w1 => x = .int .i64 (needC c) ∧ Step No w w1) := by
 have hS : Step No w w := Step.refl _ _
 refine CV_enter Try.f14 _ 39 [(0, .agg #[.int .i64 c.kind, .int .i64 c.peak, .int .i64 c.early, .int .i64 c.whole, .int .i64 c.burst, .int .i64 c.least])] Try.func14 rfl rfl (by kernel_rfl) rfl ?_
 refine VC_seq ?_
 refine VC_region ?_
 have hzs1 := hS.size
 refine VL_box (d := 1) (t := 30) (c := #[.int .i64 c.kind, .int .i64 c.peak, .int .i64 c.early, .int .i64 c.whole, .int .i64 c.burst, .int .i64 c.least]) (by kernel_rfl) (by kernel_rfl) ?_
 intro b1 w1 hn1
 replace hS := Step.trans hS (hn1.step No)
 have ho1 := hn1.own
 have hzhn1 := hn1.size
 have hqhn1 := hn1.eqb
 refine VL_pure 2 [1] [(1, .pointer (some ⟨b1, 0, none⟩))] (by kernel_rfl) rfl ?_
 refine VL_end (by kernel_rfl) ?_
 refine VQ_next ?_
 refine VC_seq ?_
 refine VC_seq ?_
 refine VC_region ?_
 refine VL_load (d := 4) (t := 30) (a := ⟨b1, 0, none⟩) (v := .agg #[.int .i64 c.kind, .int .i64 c.peak, .int .i64 c.early, .int .i64 c.whole, .int .i64 c.burst, .int .i64 c.least]) (by kernel_rfl) (by kernel_rfl) (Loads.ownL ho1 (n := 6) (by kernel_rfl) (by kernel_rfl) (by kernel_rfl)) ?_
 have hzs2 := hS.size
 have hzl1 := ho1.lt
 refine VL_call (d := 5) (f := 13) (args := #[.agg #[.int .i64 c.kind, .int .i64 c.peak, .int .i64 c.early, .int .i64 c.whole, .int .i64 c.burst, .int .i64 c.least]]) (by kernel_rfl) (by kernel_rfl) (by kernel_rfl) Try.call13 (cright_any c _) ?_
 rintro _ w2 ⟨rfl, hc1⟩
 replace hS := Step.trans hS hc1
 replace ho1 := ho1.no hc1
 refine VL_pure 3 [1, 6] [(1, .pointer (some ⟨b1, 0, none⟩)), (6, .bool ((rightC c) != 0))] (by kernel_rfl) rfl ?_
 refine VL_end (by kernel_rfl) ?_
 refine VQ_next ?_
 refine VC_ne (rightC c) 0 (by kernel_rfl) (fun h1 => ?_) (fun h1 => ?_)
 ·refine VC_seq ?_
  refine VC_region ?_
  refine VL_pure 1 [2] [(2, .int .i64 0)] (by kernel_rfl) rfl ?_
  refine VL_end (by kernel_rfl) ?_
  refine VQ_next ?_
  refine VC_ret ?_
  refine VQ_then_ret ?_
  refine VQ_ret1 (.int .i64 0) (.inr rfl) rfl rfl ?_
  exact ⟨congrArg (Value.int .i64) (by first | exact need_no (by assumption) | exact need_cbr (by assumption) (by assumption) | exact need_abr (by assumption) (by assumption) | exact need_vbr (by assumption) (by omega) | (exfalso; omega) | exact need_ubr (by assumption) (by assumption) (by assumption) (by assumption) (by assumption) (by assumption)), hS⟩
 ·refine VC_skip ?_
  refine VQ_next ?_
  refine VC_seq ?_
  refine VC_region ?_
  refine VL_pure 1 [1, 3] [(1, .pointer (some ⟨b1, 0, none⟩)), (3, .int .i64 0)] (by kernel_rfl) rfl ?_
  refine VL_end (by kernel_rfl) ?_
  refine VQ_next ?_
  refine VC_seq ?_
  refine VC_seq ?_
  refine VC_region ?_
  refine VL_pure 1 [1, 3, 7] [(1, .pointer (some ⟨b1, 0, none⟩)), (3, .int .i64 0), (7, .pointer (some ⟨b1, 0, none⟩))] (by kernel_rfl) rfl ?_
  refine VL_load (d := 8) (t := 3) (a := ⟨b1, 0, none⟩) (v := .int .i64 c.kind) (by kernel_rfl) (by kernel_rfl) (Loads.own1 ho1 (by kernel_rfl) (by rfl)) ?_
  refine VL_end (by kernel_rfl) ?_
  refine VQ_next ?_
  refine VC_block ?_
  refine VC_seq ?_
  refine VC_region ?_
  refine VL_pure 2 [1, 3, 8, 9] [(1, .pointer (some ⟨b1, 0, none⟩)), (3, .int .i64 0), (8, .int .i64 c.kind), (9, .bool (c.kind == 1))] (by kernel_rfl) rfl ?_
  refine VL_end (by kernel_rfl) ?_
  refine VQ_next ?_
  refine VC_eq c.kind 1 (by kernel_rfl) (fun h2 => ?_) (fun h2 => ?_)
  ·refine VC_region ?_
   refine VL_pure 1 [11] [(11, .pointer (some ⟨b1, 1, none⟩))] (by kernel_rfl) rfl ?_
   refine VL_load (d := 12) (t := 3) (a := ⟨b1, 1, none⟩) (v := .int .i64 c.peak) (by kernel_rfl) (by kernel_rfl) (Loads.own1 ho1 (by kernel_rfl) (by rfl)) ?_
   have hzs3 := hS.size
   have hzl2 := ho1.lt
   refine VL_call (d := 13) (f := 29) (args := #[.int .i64 c.peak]) (by kernel_rfl) (by kernel_rfl) (by kernel_rfl) Try.call29 ((per_ce c.peak) w2) ?_
   rintro _ w3 ⟨rfl, hc2⟩
   subst w3
   refine VL_pure 4 [3] [(3, .int .i64 (perC c.peak))] (by kernel_rfl) rfl ?_
   refine VL_end (by kernel_rfl) ?_
   refine VQ_block_normal ?_
   refine VQ_next ?_
   refine VC_seq ?_
   refine VC_region ?_
   refine VL_pure 2 [2] [(2, .int .i64 (perC c.peak))] (by kernel_rfl) rfl ?_
   refine VL_end (by kernel_rfl) ?_
   refine VQ_next ?_
   refine VC_ret ?_
   refine VQ_ret1 (.int .i64 (perC c.peak)) (.inr rfl) rfl rfl ?_
   exact ⟨congrArg (Value.int .i64) (by first | exact need_no (by assumption) | exact need_cbr (by assumption) (by assumption) | exact need_abr (by assumption) (by assumption) | exact need_vbr (by assumption) (by omega) | (exfalso; omega) | exact need_ubr (by assumption) (by assumption) (by assumption) (by assumption) (by assumption) (by assumption)), hS⟩
  ·refine VC_seq ?_
   refine VC_region ?_
   refine VL_pure 2 [1, 3, 8, 14] [(1, .pointer (some ⟨b1, 0, none⟩)), (3, .int .i64 0), (8, .int .i64 c.kind), (14, .bool (c.kind == 5))] (by kernel_rfl) rfl ?_
   refine VL_end (by kernel_rfl) ?_
   refine VQ_next ?_
   refine VC_eq c.kind 5 (by kernel_rfl) (fun h3 => ?_) (fun h3 => ?_)
   ·refine VC_region ?_
    refine VL_pure 1 [16] [(16, .pointer (some ⟨b1, 5, none⟩))] (by kernel_rfl) rfl ?_
    refine VL_load (d := 17) (t := 3) (a := ⟨b1, 5, none⟩) (v := .int .i64 c.least) (by kernel_rfl) (by kernel_rfl) (Loads.own1 ho1 (by kernel_rfl) (by rfl)) ?_
    have hzs4 := hS.size
    have hzl3 := ho1.lt
    refine VL_call (d := 18) (f := 29) (args := #[.int .i64 c.least]) (by kernel_rfl) (by kernel_rfl) (by kernel_rfl) Try.call29 ((per_ce c.least) w2) ?_
    rintro _ w4 ⟨rfl, hc3⟩
    subst w4
    refine VL_pure 4 [3] [(3, .int .i64 (perC c.least))] (by kernel_rfl) rfl ?_
    refine VL_end (by kernel_rfl) ?_
    refine VQ_block_normal ?_
    refine VQ_next ?_
    refine VC_seq ?_
    refine VC_region ?_
    refine VL_pure 2 [2] [(2, .int .i64 (perC c.least))] (by kernel_rfl) rfl ?_
    refine VL_end (by kernel_rfl) ?_
    refine VQ_next ?_
    refine VC_ret ?_
    refine VQ_ret1 (.int .i64 (perC c.least)) (.inr rfl) rfl rfl ?_
    exact ⟨congrArg (Value.int .i64) (by first | exact need_no (by assumption) | exact need_cbr (by assumption) (by assumption) | exact need_abr (by assumption) (by assumption) | exact need_vbr (by assumption) (by omega) | (exfalso; omega) | exact need_ubr (by assumption) (by assumption) (by assumption) (by assumption) (by assumption) (by assumption)), hS⟩
   ·refine VC_seq ?_
    refine VC_seq ?_
    refine VC_region ?_
    refine VL_pure 2 [1, 3, 8, 19] [(1, .pointer (some ⟨b1, 0, none⟩)), (3, .int .i64 0), (8, .int .i64 c.kind), (19, .bool (c.kind == 2))] (by kernel_rfl) rfl ?_
    refine VL_end (by kernel_rfl) ?_
    refine VQ_next ?_
    refine VC_eq c.kind 2 (by kernel_rfl) (fun h4 => ?_) (fun h4 => ?_)
    ·refine VC_skip ?_
     refine VQ_next ?_
     refine VC_eq c.kind 2 (by kernel_rfl) (fun h5 => ?_) (fun h5 => ?_)
     ·have hr0 : rightC c = 0 := by assumption
      have hk : c.kind = 2 ∨ c.kind = 3 ∨ c.kind = 4 := by omega
      obtain ⟨hn1, hn2, hn3⟩ := vbr_num hr0 hk
      refine VC_det [[], [0], [0, 1], [0, 1, 2], [], [4], [0, 1, 2, 4, 5], [], [7], [0, 1, 2, 4, 5, 6, 7, 8], [0, 1, 2, 3, 4, 5, 6, 7, 8, 9], [], [11], [11, 12], [0, 1, 2, 3, 4, 5, 6, 7, 8, 9, 10, 11, 12, 13], [0, 1, 2, 3, 4, 5, 6, 7, 8, 9, 10, 11, 12, 13, 14]] 14 [.pointer (some ⟨b1, 3, none⟩), .int .i64 c.whole, .int .i64 (perC c.whole), .int .i64 (IntKind.wrap .i64 ((perC c.whole) * 4096)), .pointer (some ⟨b1, 1, none⟩), .int .i64 c.peak, .int .i64 (perC c.peak), .pointer (some ⟨b1, 4, none⟩), .int .i64 c.burst, .int .i64 (IntKind.wrap .i64 ((perC c.peak) * c.burst)), .int .i64 (IntKind.wrap .i64 ((IntKind.wrap .i64 ((perC c.whole) * 4096)) + (IntKind.wrap .i64 ((perC c.peak) * c.burst)))), .pointer (some ⟨b1, 4, none⟩), .int .i64 c.burst, .int .i64 (IntKind.wrap .i64 (c.burst + 4096))] [0, 3, 4, 7, 9, 10, 11, 13] [1, 2, 5, 6, 8, 12] (by kernel_rfl) (by kernel_rfl) (by kernel_rfl) (by kernel_rfl) ?_ ?_
      ·intro w5 hs1
       replace hS := Step.trans hS hs1
       replace ho1 := ho1.no hs1
       exact ⟨Det1_load (d := 24) (t := 3) (a := ⟨b1, 3, none⟩) (by kernel_rfl) (by kernel_rfl) (Loads.own1 ho1 (by kernel_rfl) (by rfl)), Det1_call (d := 25) (f := 29) (args := #[.int .i64 c.whole]) (by kernel_rfl) (by kernel_rfl) (by kernel_rfl) Try.call29 (by exact (per_ce c.whole).no _), Det1_load (d := 28) (t := 3) (a := ⟨b1, 1, none⟩) (by kernel_rfl) (by kernel_rfl) (Loads.own1 ho1 (by kernel_rfl) (by rfl)), Det1_call (d := 29) (f := 29) (args := #[.int .i64 c.peak]) (by kernel_rfl) (by kernel_rfl) (by kernel_rfl) Try.call29 (by exact (per_ce c.peak).no _), Det1_load (d := 31) (t := 3) (a := ⟨b1, 4, none⟩) (by kernel_rfl) (by kernel_rfl) (Loads.own1 ho1 (by kernel_rfl) (by rfl)), Det1_load (d := 35) (t := 3) (a := ⟨b1, 4, none⟩) (by kernel_rfl) (by kernel_rfl) (Loads.own1 ho1 (by kernel_rfl) (by rfl)), trivial⟩
      intro w5 hs1
      replace hS := Step.trans hS hs1
      replace ho1 := ho1.no hs1
      refine VL_keep [33, 36] [(33, .int .i64 (IntKind.wrap .i64 ((IntKind.wrap .i64 ((perC c.whole) * 4096)) + (IntKind.wrap .i64 ((perC c.peak) * c.burst))))), (36, .int .i64 (IntKind.wrap .i64 (c.burst + 4096)))] (by kernel_rfl) ?_
      have hzs5 := hS.size
      have hzl4 := ho1.lt
      refine VL_call (d := 37) (f := 30) (args := #[.int .i64 (IntKind.wrap .i64 ((IntKind.wrap .i64 ((perC c.whole) * 4096)) + (IntKind.wrap .i64 ((perC c.peak) * c.burst)))), .int .i64 (IntKind.wrap .i64 (c.burst + 4096))]) (by kernel_rfl) (by kernel_rfl) (by kernel_rfl) Try.call30 ((up_ce hn1 hn2 hn3) w5) ?_
      rintro _ w6 ⟨rfl, hc4⟩
      subst w6
      refine VL_pure 16 [3] [(3, .int .i64 (upC (perC c.whole * 4096 + perC c.peak * c.burst) (c.burst + 4096)))] (by kernel_rfl) rfl ?_
      refine VL_end (by kernel_rfl) ?_
      refine VQ_block_normal ?_
      refine VQ_next ?_
      refine VC_seq ?_
      refine VC_region ?_
      refine VL_pure 2 [2] [(2, .int .i64 (upC (perC c.whole * 4096 + perC c.peak * c.burst) (c.burst + 4096)))] (by kernel_rfl) rfl ?_
      refine VL_end (by kernel_rfl) ?_
      refine VQ_next ?_
      refine VC_ret ?_
      refine VQ_ret1 (.int .i64 (upC (perC c.whole * 4096 + perC c.peak * c.burst) (c.burst + 4096))) (.inr rfl) rfl rfl ?_
      exact ⟨congrArg (Value.int .i64) (by first | exact need_no (by assumption) | exact need_cbr (by assumption) (by assumption) | exact need_abr (by assumption) (by assumption) | exact need_vbr (by assumption) (by omega) | (exfalso; omega) | exact need_ubr (by assumption) (by assumption) (by assumption) (by assumption) (by assumption) (by assumption)), hS⟩
     ·refine VC_skip ?_
      refine VQ_block_normal ?_
      refine VQ_next ?_
      refine VC_seq ?_
      refine VC_region ?_
      refine VL_pure 2 [2] [(2, .int .i64 0)] (by kernel_rfl) rfl ?_
      refine VL_end (by kernel_rfl) ?_
      refine VQ_next ?_
      refine VC_ret ?_
      refine VQ_ret1 (.int .i64 0) (.inr rfl) rfl rfl ?_
      exact ⟨congrArg (Value.int .i64) (by first | exact need_no (by assumption) | exact need_cbr (by assumption) (by assumption) | exact need_abr (by assumption) (by assumption) | exact need_vbr (by assumption) (by omega) | (exfalso; omega) | exact need_ubr (by assumption) (by assumption) (by assumption) (by assumption) (by assumption) (by assumption)), hS⟩
    ·refine VC_seq ?_
     refine VC_region ?_
     refine VL_pure 2 [1, 3, 8, 19] [(1, .pointer (some ⟨b1, 0, none⟩)), (3, .int .i64 0), (8, .int .i64 c.kind), (19, .bool (c.kind == 3))] (by kernel_rfl) rfl ?_
     refine VL_end (by kernel_rfl) ?_
     refine VQ_next ?_
     refine VC_eq c.kind 3 (by kernel_rfl) (fun h6 => ?_) (fun h6 => ?_)
     ·refine VC_skip ?_
      refine VQ_next ?_
      refine VC_eq c.kind 3 (by kernel_rfl) (fun h7 => ?_) (fun h7 => ?_)
      ·have hr0 : rightC c = 0 := by assumption
       have hk : c.kind = 2 ∨ c.kind = 3 ∨ c.kind = 4 := by omega
       obtain ⟨hn1, hn2, hn3⟩ := vbr_num hr0 hk
       refine VC_det [[], [0], [0, 1], [0, 1, 2], [], [4], [0, 1, 2, 4, 5], [], [7], [0, 1, 2, 4, 5, 6, 7, 8], [0, 1, 2, 3, 4, 5, 6, 7, 8, 9], [], [11], [11, 12], [0, 1, 2, 3, 4, 5, 6, 7, 8, 9, 10, 11, 12, 13], [0, 1, 2, 3, 4, 5, 6, 7, 8, 9, 10, 11, 12, 13, 14]] 14 [.pointer (some ⟨b1, 3, none⟩), .int .i64 c.whole, .int .i64 (perC c.whole), .int .i64 (IntKind.wrap .i64 ((perC c.whole) * 4096)), .pointer (some ⟨b1, 1, none⟩), .int .i64 c.peak, .int .i64 (perC c.peak), .pointer (some ⟨b1, 4, none⟩), .int .i64 c.burst, .int .i64 (IntKind.wrap .i64 ((perC c.peak) * c.burst)), .int .i64 (IntKind.wrap .i64 ((IntKind.wrap .i64 ((perC c.whole) * 4096)) + (IntKind.wrap .i64 ((perC c.peak) * c.burst)))), .pointer (some ⟨b1, 4, none⟩), .int .i64 c.burst, .int .i64 (IntKind.wrap .i64 (c.burst + 4096))] [0, 3, 4, 7, 9, 10, 11, 13] [1, 2, 5, 6, 8, 12] (by kernel_rfl) (by kernel_rfl) (by kernel_rfl) (by kernel_rfl) ?_ ?_
       ·intro w7 hs2
        replace hS := Step.trans hS hs2
        replace ho1 := ho1.no hs2
        exact ⟨Det1_load (d := 24) (t := 3) (a := ⟨b1, 3, none⟩) (by kernel_rfl) (by kernel_rfl) (Loads.own1 ho1 (by kernel_rfl) (by rfl)), Det1_call (d := 25) (f := 29) (args := #[.int .i64 c.whole]) (by kernel_rfl) (by kernel_rfl) (by kernel_rfl) Try.call29 (by exact (per_ce c.whole).no _), Det1_load (d := 28) (t := 3) (a := ⟨b1, 1, none⟩) (by kernel_rfl) (by kernel_rfl) (Loads.own1 ho1 (by kernel_rfl) (by rfl)), Det1_call (d := 29) (f := 29) (args := #[.int .i64 c.peak]) (by kernel_rfl) (by kernel_rfl) (by kernel_rfl) Try.call29 (by exact (per_ce c.peak).no _), Det1_load (d := 31) (t := 3) (a := ⟨b1, 4, none⟩) (by kernel_rfl) (by kernel_rfl) (Loads.own1 ho1 (by kernel_rfl) (by rfl)), Det1_load (d := 35) (t := 3) (a := ⟨b1, 4, none⟩) (by kernel_rfl) (by kernel_rfl) (Loads.own1 ho1 (by kernel_rfl) (by rfl)), trivial⟩
       intro w7 hs2
       replace hS := Step.trans hS hs2
       replace ho1 := ho1.no hs2
       refine VL_keep [33, 36] [(33, .int .i64 (IntKind.wrap .i64 ((IntKind.wrap .i64 ((perC c.whole) * 4096)) + (IntKind.wrap .i64 ((perC c.peak) * c.burst))))), (36, .int .i64 (IntKind.wrap .i64 (c.burst + 4096)))] (by kernel_rfl) ?_
       have hzs6 := hS.size
       have hzl5 := ho1.lt
       refine VL_call (d := 37) (f := 30) (args := #[.int .i64 (IntKind.wrap .i64 ((IntKind.wrap .i64 ((perC c.whole) * 4096)) + (IntKind.wrap .i64 ((perC c.peak) * c.burst)))), .int .i64 (IntKind.wrap .i64 (c.burst + 4096))]) (by kernel_rfl) (by kernel_rfl) (by kernel_rfl) Try.call30 ((up_ce hn1 hn2 hn3) w7) ?_
       rintro _ w8 ⟨rfl, hc5⟩
       subst w8
       refine VL_pure 16 [3] [(3, .int .i64 (upC (perC c.whole * 4096 + perC c.peak * c.burst) (c.burst + 4096)))] (by kernel_rfl) rfl ?_
       refine VL_end (by kernel_rfl) ?_
       refine VQ_block_normal ?_
       refine VQ_next ?_
       refine VC_seq ?_
       refine VC_region ?_
       refine VL_pure 2 [2] [(2, .int .i64 (upC (perC c.whole * 4096 + perC c.peak * c.burst) (c.burst + 4096)))] (by kernel_rfl) rfl ?_
       refine VL_end (by kernel_rfl) ?_
       refine VQ_next ?_
       refine VC_ret ?_
       refine VQ_ret1 (.int .i64 (upC (perC c.whole * 4096 + perC c.peak * c.burst) (c.burst + 4096))) (.inr rfl) rfl rfl ?_
       exact ⟨congrArg (Value.int .i64) (by first | exact need_no (by assumption) | exact need_cbr (by assumption) (by assumption) | exact need_abr (by assumption) (by assumption) | exact need_vbr (by assumption) (by omega) | (exfalso; omega) | exact need_ubr (by assumption) (by assumption) (by assumption) (by assumption) (by assumption) (by assumption)), hS⟩
      ·refine VC_skip ?_
       refine VQ_block_normal ?_
       refine VQ_next ?_
       refine VC_seq ?_
       refine VC_region ?_
       refine VL_pure 2 [2] [(2, .int .i64 0)] (by kernel_rfl) rfl ?_
       refine VL_end (by kernel_rfl) ?_
       refine VQ_next ?_
       refine VC_ret ?_
       refine VQ_ret1 (.int .i64 0) (.inr rfl) rfl rfl ?_
       exact ⟨congrArg (Value.int .i64) (by first | exact need_no (by assumption) | exact need_cbr (by assumption) (by assumption) | exact need_abr (by assumption) (by assumption) | exact need_vbr (by assumption) (by omega) | (exfalso; omega) | exact need_ubr (by assumption) (by assumption) (by assumption) (by assumption) (by assumption) (by assumption)), hS⟩
     ·refine VC_region ?_
      refine VL_pure 2 [1, 3, 19] [(1, .pointer (some ⟨b1, 0, none⟩)), (3, .int .i64 0), (19, .bool (c.kind == 4))] (by kernel_rfl) rfl ?_
      refine VL_end (by kernel_rfl) ?_
      refine VQ_next ?_
      refine VC_eq c.kind 4 (by kernel_rfl) (fun h8 => ?_) (fun h8 => ?_)
      ·have hr0 : rightC c = 0 := by assumption
       have hk : c.kind = 2 ∨ c.kind = 3 ∨ c.kind = 4 := by omega
       obtain ⟨hn1, hn2, hn3⟩ := vbr_num hr0 hk
       refine VC_det [[], [0], [0, 1], [0, 1, 2], [], [4], [0, 1, 2, 4, 5], [], [7], [0, 1, 2, 4, 5, 6, 7, 8], [0, 1, 2, 3, 4, 5, 6, 7, 8, 9], [], [11], [11, 12], [0, 1, 2, 3, 4, 5, 6, 7, 8, 9, 10, 11, 12, 13], [0, 1, 2, 3, 4, 5, 6, 7, 8, 9, 10, 11, 12, 13, 14]] 14 [.pointer (some ⟨b1, 3, none⟩), .int .i64 c.whole, .int .i64 (perC c.whole), .int .i64 (IntKind.wrap .i64 ((perC c.whole) * 4096)), .pointer (some ⟨b1, 1, none⟩), .int .i64 c.peak, .int .i64 (perC c.peak), .pointer (some ⟨b1, 4, none⟩), .int .i64 c.burst, .int .i64 (IntKind.wrap .i64 ((perC c.peak) * c.burst)), .int .i64 (IntKind.wrap .i64 ((IntKind.wrap .i64 ((perC c.whole) * 4096)) + (IntKind.wrap .i64 ((perC c.peak) * c.burst)))), .pointer (some ⟨b1, 4, none⟩), .int .i64 c.burst, .int .i64 (IntKind.wrap .i64 (c.burst + 4096))] [0, 3, 4, 7, 9, 10, 11, 13] [1, 2, 5, 6, 8, 12] (by kernel_rfl) (by kernel_rfl) (by kernel_rfl) (by kernel_rfl) ?_ ?_
       ·intro w9 hs3
        replace hS := Step.trans hS hs3
        replace ho1 := ho1.no hs3
        exact ⟨Det1_load (d := 24) (t := 3) (a := ⟨b1, 3, none⟩) (by kernel_rfl) (by kernel_rfl) (Loads.own1 ho1 (by kernel_rfl) (by rfl)), Det1_call (d := 25) (f := 29) (args := #[.int .i64 c.whole]) (by kernel_rfl) (by kernel_rfl) (by kernel_rfl) Try.call29 (by exact (per_ce c.whole).no _), Det1_load (d := 28) (t := 3) (a := ⟨b1, 1, none⟩) (by kernel_rfl) (by kernel_rfl) (Loads.own1 ho1 (by kernel_rfl) (by rfl)), Det1_call (d := 29) (f := 29) (args := #[.int .i64 c.peak]) (by kernel_rfl) (by kernel_rfl) (by kernel_rfl) Try.call29 (by exact (per_ce c.peak).no _), Det1_load (d := 31) (t := 3) (a := ⟨b1, 4, none⟩) (by kernel_rfl) (by kernel_rfl) (Loads.own1 ho1 (by kernel_rfl) (by rfl)), Det1_load (d := 35) (t := 3) (a := ⟨b1, 4, none⟩) (by kernel_rfl) (by kernel_rfl) (Loads.own1 ho1 (by kernel_rfl) (by rfl)), trivial⟩
       intro w9 hs3
       replace hS := Step.trans hS hs3
       replace ho1 := ho1.no hs3
       refine VL_keep [33, 36] [(33, .int .i64 (IntKind.wrap .i64 ((IntKind.wrap .i64 ((perC c.whole) * 4096)) + (IntKind.wrap .i64 ((perC c.peak) * c.burst))))), (36, .int .i64 (IntKind.wrap .i64 (c.burst + 4096)))] (by kernel_rfl) ?_
       have hzs7 := hS.size
       have hzl6 := ho1.lt
       refine VL_call (d := 37) (f := 30) (args := #[.int .i64 (IntKind.wrap .i64 ((IntKind.wrap .i64 ((perC c.whole) * 4096)) + (IntKind.wrap .i64 ((perC c.peak) * c.burst)))), .int .i64 (IntKind.wrap .i64 (c.burst + 4096))]) (by kernel_rfl) (by kernel_rfl) (by kernel_rfl) Try.call30 ((up_ce hn1 hn2 hn3) w9) ?_
       rintro _ w10 ⟨rfl, hc6⟩
       subst w10
       refine VL_pure 16 [3] [(3, .int .i64 (upC (perC c.whole * 4096 + perC c.peak * c.burst) (c.burst + 4096)))] (by kernel_rfl) rfl ?_
       refine VL_end (by kernel_rfl) ?_
       refine VQ_block_normal ?_
       refine VQ_next ?_
       refine VC_seq ?_
       refine VC_region ?_
       refine VL_pure 2 [2] [(2, .int .i64 (upC (perC c.whole * 4096 + perC c.peak * c.burst) (c.burst + 4096)))] (by kernel_rfl) rfl ?_
       refine VL_end (by kernel_rfl) ?_
       refine VQ_next ?_
       refine VC_ret ?_
       refine VQ_ret1 (.int .i64 (upC (perC c.whole * 4096 + perC c.peak * c.burst) (c.burst + 4096))) (.inr rfl) rfl rfl ?_
       exact ⟨congrArg (Value.int .i64) (by first | exact need_no (by assumption) | exact need_cbr (by assumption) (by assumption) | exact need_abr (by assumption) (by assumption) | exact need_vbr (by assumption) (by omega) | (exfalso; omega) | exact need_ubr (by assumption) (by assumption) (by assumption) (by assumption) (by assumption) (by assumption)), hS⟩
      ·refine VC_skip ?_
       refine VQ_block_normal ?_
       refine VQ_next ?_
       refine VC_seq ?_
       refine VC_region ?_
       refine VL_pure 2 [2] [(2, .int .i64 0)] (by kernel_rfl) rfl ?_
       refine VL_end (by kernel_rfl) ?_
       refine VQ_next ?_
       refine VC_ret ?_
       refine VQ_ret1 (.int .i64 0) (.inr rfl) rfl rfl ?_
       exact ⟨congrArg (Value.int .i64) (by first | exact need_no (by assumption) | exact need_cbr (by assumption) (by assumption) | exact need_abr (by assumption) (by assumption) | exact need_vbr (by assumption) (by omega) | (exfalso; omega) | exact need_ubr (by assumption) (by assumption) (by assumption) (by assumption) (by assumption) (by assumption)), hS⟩

set_option maxRecDepth 100000 in
set_option maxHeartbeats 4000000 in
theorem bnew_any (s e : Int) (w : World) :
  CV Try.prog 59 #[.int .i64 s, .int .i64 e] w (fun x w1 => ∃ bk, x = .pointer (some ⟨bk, 0, none⟩) ∧ bk = w.heap.size ∧ w1.heap.size = w.heap.size + 1 ∧ Own w1 bk #[.int .i64 (bkNew s e).step, .int .i64 (bkNew s e).early, .int .i64 (bkNew s e).next, .bool (bkNew s e).any] 127 ∧ Step No w w1) := by
 have hS : Step No w w := Step.refl _ _
 refine CV_enter Try.f59 _ 11 [(0, .int .i64 s), (1, .int .i64 e)] Try.func59 rfl rfl (by kernel_rfl) rfl ?_
 refine VC_seq ?_
 refine VC_region ?_
 refine VL_pure 1 [0, 1] [(0, .int .i64 s), (1, .int .i64 e)] (by kernel_rfl) rfl ?_
 refine VL_end (by kernel_rfl) ?_
 refine VQ_next ?_
 refine VC_seq ?_
 refine VC_region ?_
 refine VL_pure 1 [1, 5] [(1, .int .i64 e), (5, .int .i64 s)] (by kernel_rfl) rfl ?_
 have hzs1 := hS.size
 refine VL_call (d := 6) (f := 72) (args := #[.int .i64 s, .int .i64 1, .int .i64 1152921504606846976]) (by kernel_rfl) (by kernel_rfl) (by kernel_rfl) Try.call72 ((within_ce s 1 1152921504606846976) w) ?_
 rintro _ w1 ⟨rfl, hc1⟩
 subst w1
 refine VL_pure 3 [6, 7] [(6, .int .i64 (imax 1 (imin s 1152921504606846976))), (7, .int .i64 e)] (by kernel_rfl) rfl ?_
 have hzs2 := hS.size
 refine VL_call (d := 8) (f := 72) (args := #[.int .i64 e, .int .i64 0, .int .i64 1152921504606846976]) (by kernel_rfl) (by kernel_rfl) (by kernel_rfl) Try.call72 ((within_ce e 0 1152921504606846976) w) ?_
 rintro _ w2 ⟨rfl, hc2⟩
 subst w2
 refine VL_pure 5 [9] [(9, .agg #[.int .i64 (imax 1 (imin s 1152921504606846976)), .int .i64 (imax 0 (imin e 1152921504606846976)), .int .i64 0, .bool false])] (by kernel_rfl) rfl ?_
 have hzs3 := hS.size
 refine VL_box (d := 10) (t := 127) (c := #[.int .i64 (imax 1 (imin s 1152921504606846976)), .int .i64 (imax 0 (imin e 1152921504606846976)), .int .i64 0, .bool false]) (by kernel_rfl) (by kernel_rfl) ?_
 intro b1 w3 hn1
 replace hS := Step.trans hS (hn1.step No)
 have ho1 := hn1.own
 have hzhn1 := hn1.size
 have hqhn1 := hn1.eqb
 refine VL_pure 7 [4] [(4, .pointer (some ⟨b1, 0, none⟩))] (by kernel_rfl) rfl ?_
 refine VL_end (by kernel_rfl) ?_
 refine VQ_next ?_
 refine VC_ret ?_
 refine VQ_ret1 (.pointer (some ⟨b1, 0, none⟩)) (.inr rfl) rfl rfl ?_
 exact ⟨b1, rfl, hqhn1, hzhn1, ho1, hS⟩

set_option maxRecDepth 100000 in
set_option maxHeartbeats 4000000 in
theorem bfits_any (bk : Nat) (b : Bk) (t : Int) (w : World) (hb : BkI b) (ho : Own w bk #[.int .i64 b.step, .int .i64 b.early, .int .i64 b.next, .bool b.any] 127) :
  CV Try.prog 96 #[.pointer (some ⟨bk, 0, none⟩), .int .i64 t] w (fun x w1 => x = .bool (fitsB b t) ∧ Step No w w1) := by
 have hS : Step No w w := Step.refl _ _
 refine CV_enter Try.f96 _ 28 [(0, .pointer (some ⟨bk, 0, none⟩)), (1, .int .i64 t)] Try.func96 rfl rfl (by kernel_rfl) rfl ?_
 refine VC_seq ?_
 refine VC_region ?_
 refine VL_pure 1 [0, 1] [(0, .pointer (some ⟨bk, 0, none⟩)), (1, .int .i64 t)] (by kernel_rfl) rfl ?_
 refine VL_end (by kernel_rfl) ?_
 refine VQ_next ?_
 refine VC_seq ?_
 have hs1 := drew_step w
 have hs1z : w.heap.size = w.drew.heap.size := rfl
 refine VC_text [[], [0], [0, 1], [0, 1, 2], [0, 1, 2, 3], [0, 1, 2, 3, 4], [0, 1, 2, 3, 4, 5], [0, 1, 2, 3, 4, 5, 6], [0, 1, 2, 3, 4, 5, 6, 7], [0, 1, 2, 3, 4, 5, 6, 7, 8], [0, 1, 2, 3, 4, 5, 6, 7, 8, 9], [0, 1, 2, 3, 4, 5, 6, 7, 8], [0, 1, 2, 3, 4, 5, 6, 7, 8, 11], [0, 1, 2, 3, 4, 5, 6, 7, 8, 11, 12], [0, 1, 2, 3, 4, 5, 6, 7, 8, 11, 12, 13], [0, 1, 2, 3, 4, 5, 6, 7, 8], [0, 1, 2, 3, 4, 5, 6, 7, 8, 15], [0, 1, 2, 3, 4, 5, 6, 7, 8, 15, 16], [0, 1, 2, 3, 4, 5, 6, 7, 8, 15, 16, 17], [0, 1, 2, 3, 4, 5, 6, 7, 8, 11, 12, 13, 14, 15, 16, 17, 18], [0, 1, 2, 3, 4, 5, 6, 7, 8, 9, 10, 11, 12, 13, 14, 15, 16, 17, 18, 19], [0, 1, 2, 3, 4, 5, 6, 7, 8, 9, 10, 11, 12, 13, 14, 15, 16, 17, 18, 19, 20], [0, 1, 2, 3, 4, 5, 6, 7, 8, 9, 10, 11, 12, 13, 14, 15, 16, 17, 18, 19, 20, 21], [0, 1, 2, 3, 4, 5, 6, 7, 8, 9, 10, 11, 12, 13, 14, 15, 16, 17, 18, 19, 20, 21, 22]] 20 (fun x y => Step (fun k => w.heap.size ≤ k) x y) [10] [0, 1, 2, 3, 4, 5, 6, 7, 8, 9, 11, 12, 13, 14, 15, 16, 17, 18, 19, 10] (by kernel_rfl) (by kernel_rfl) (by kernel_rfl) (by kernel_rfl) (fun x => Step.refl _ x) (fun h k => Step.trans h k) Step.weak ?_
 have hzs1 := hS.size
 have hzl1 := ho.lt
 generalize w.drew = w1 at hs1 hs1z ⊢
 replace hS := Step.trans hS hs1
 replace ho := ho.no hs1
 refine VT_pures 6 (kn' := [(5, .pointer (some ⟨bk, 3, none⟩)), (4, .pointer (some ⟨bk, 0, none⟩)), (3, .pointer (some ⟨bk, 0, none⟩)), (2, .bool true), (1, .bool true), (0, .pointer (some ⟨bk, 0, none⟩))]) (by kernel_rfl) ?_
 refine VT_load (d := 11) (t := 4) (a := ⟨bk, 3, none⟩) (v := .bool b.any) (by kernel_rfl) (by kernel_rfl) ?_ ?_
 ·intro w2 hr1
  replace hS := Step.transNew hS hr1 (fun i hi hG => by (try simp only at hG); omega)
  replace ho := ho.step hr1 (by (try simp only); omega)
  exact (Loads.own1 ho (by kernel_rfl) (by rfl))
 refine VT_pures 2 (kn' := [(8, .bool (!b.any)), (7, .bool (!b.any)), (6, .bool b.any), (5, .pointer (some ⟨bk, 3, none⟩)), (4, .pointer (some ⟨bk, 0, none⟩)), (3, .pointer (some ⟨bk, 0, none⟩)), (2, .bool true), (1, .bool true), (0, .pointer (some ⟨bk, 0, none⟩))]) (by kernel_rfl) ?_
 rcases Bool.eq_false_or_eq_true b.any with hg1 | hg1
 ·refine VT_eq [(8, .bool false), (7, .bool false), (6, .bool true), (5, .pointer (some ⟨bk, 3, none⟩)), (4, .pointer (some ⟨bk, 0, none⟩)), (3, .pointer (some ⟨bk, 0, none⟩)), (2, .bool true), (1, .bool true), (0, .pointer (some ⟨bk, 0, none⟩))] (by simp only [hg1, Bool.not_true, Bool.not_false]) ?_
  try simp only [bne_iff_ne, beq_iff_eq, decide_eq_true_eq, decide_eq_false_iff_not, bne_eq_false_iff_eq, beq_eq_false_iff_ne, ne_eq] at hg1
  refine VT_pures 4 (kn' := [(13, .pointer (some ⟨bk, 2, none⟩)), (12, .pointer (some ⟨bk, 0, none⟩)), (11, .pointer (some ⟨bk, 0, none⟩)), (9, .int .i64 t), (8, .bool false), (7, .bool false), (6, .bool true), (5, .pointer (some ⟨bk, 3, none⟩)), (4, .pointer (some ⟨bk, 0, none⟩)), (3, .pointer (some ⟨bk, 0, none⟩)), (2, .bool true), (1, .bool true), (0, .pointer (some ⟨bk, 0, none⟩))]) (by kernel_rfl) ?_
  refine VT_load (d := 19) (t := 3) (a := ⟨bk, 2, none⟩) (v := .int .i64 b.next) (by kernel_rfl) (by kernel_rfl) ?_ ?_
  ·intro w3 hr2
   replace hS := Step.transNew hS hr2 (fun i hi hG => by (try simp only at hG); omega)
   replace ho := ho.step hr2 (by (try simp only); omega)
   exact (Loads.own1 ho (by kernel_rfl) (by rfl))
  refine VT_pures 3 (kn' := [(17, .pointer (some ⟨bk, 1, none⟩)), (16, .pointer (some ⟨bk, 0, none⟩)), (15, .pointer (some ⟨bk, 0, none⟩)), (14, .int .i64 b.next), (13, .pointer (some ⟨bk, 2, none⟩)), (12, .pointer (some ⟨bk, 0, none⟩)), (11, .pointer (some ⟨bk, 0, none⟩)), (9, .int .i64 t), (8, .bool false), (7, .bool false), (6, .bool true), (5, .pointer (some ⟨bk, 3, none⟩)), (4, .pointer (some ⟨bk, 0, none⟩)), (3, .pointer (some ⟨bk, 0, none⟩)), (2, .bool true), (1, .bool true), (0, .pointer (some ⟨bk, 0, none⟩))]) (by kernel_rfl) ?_
  refine VT_load (d := 23) (t := 3) (a := ⟨bk, 1, none⟩) (v := .int .i64 b.early) (by kernel_rfl) (by kernel_rfl) ?_ ?_
  ·intro w4 hr3
   replace hS := Step.transNew hS hr3 (fun i hi hG => by (try simp only at hG); omega)
   replace ho := ho.step hr3 (by (try simp only); omega)
   exact (Loads.own1 ho (by kernel_rfl) (by rfl))
  refine VT_pures 1 (kn' := [(19, .int .i64 (IntKind.wrap .i64 (b.next - b.early))), (18, .int .i64 b.early), (17, .pointer (some ⟨bk, 1, none⟩)), (16, .pointer (some ⟨bk, 0, none⟩)), (15, .pointer (some ⟨bk, 0, none⟩)), (14, .int .i64 b.next), (13, .pointer (some ⟨bk, 2, none⟩)), (12, .pointer (some ⟨bk, 0, none⟩)), (11, .pointer (some ⟨bk, 0, none⟩)), (9, .int .i64 t), (8, .bool false), (7, .bool false), (6, .bool true), (5, .pointer (some ⟨bk, 3, none⟩)), (4, .pointer (some ⟨bk, 0, none⟩)), (3, .pointer (some ⟨bk, 0, none⟩)), (2, .bool true), (1, .bool true), (0, .pointer (some ⟨bk, 0, none⟩))]) (by kernel_rfl) ?_
  refine VT_chain (by kernel_rfl) ?_
  intro w5 hs2
  have hzhs2 := hs2.size
  replace hS := Step.trans hS hs2
  replace ho := ho.no hs2
  have hzs2 := hS.size
  have hzl2 := ho.lt
  refine VTc_call (d := 15) (f := 72) (args := #[.int .i64 t, .int .i64 0, .int .i64 1152921504606846976]) (by kernel_rfl) (by kernel_rfl) (by kernel_rfl) Try.call72 ((within_ce t 0 1152921504606846976).no _) ?_ ?_
  ·rintro _ w6 ⟨rfl, hc1⟩
   exact Step.mono hc1 (by intro i hi; first | exact hi.elim | exact .inl hi | ((try simp only at hi ⊢); omega))
  rintro _ w6 ⟨rfl, hc1⟩
  have hzhc1 := (hc1).size
  replace hS := Step.trans hS hc1
  replace ho := ho.no hc1
  refine VT_end ?_
  intro w7 hs3
  replace hS := Step.trans hS hs3
  replace ho := ho.no hs3
  refine VL_keep [7, 13, 24, 15] [(7, .bool true), (13, .bool false), (24, .int .i64 (IntKind.wrap .i64 (b.next - b.early))), (15, .int .i64 (imax 0 (imin t 1152921504606846976)))] (by kernel_rfl) ?_
  refine VL_pure 24 [4] [(4, .bool (decide ((imax 0 (imin t 1152921504606846976)) ≥ (IntKind.wrap .i64 (b.next - b.early)))))] (by kernel_rfl) rfl ?_
  refine VL_end (by kernel_rfl) ?_
  refine VQ_next ?_
  refine VC_ret ?_
  refine VQ_ret1 (.bool (decide ((imax 0 (imin t 1152921504606846976)) ≥ (IntKind.wrap .i64 (b.next - b.early))))) (.inr rfl) rfl rfl ?_
  exact ⟨congrArg Value.bool (by first | exact fits_no (by first | assumption | simp_all) | exact fits_yes hb.toBkOk (by first | assumption | simp_all)), hS⟩
 ·refine VT_eq [(8, .bool true), (7, .bool true), (6, .bool false), (5, .pointer (some ⟨bk, 3, none⟩)), (4, .pointer (some ⟨bk, 0, none⟩)), (3, .pointer (some ⟨bk, 0, none⟩)), (2, .bool true), (1, .bool true), (0, .pointer (some ⟨bk, 0, none⟩))] (by simp only [hg1, Bool.not_true, Bool.not_false]) ?_
  try simp only [bne_iff_ne, beq_iff_eq, decide_eq_true_eq, decide_eq_false_iff_not, bne_eq_false_iff_eq, beq_eq_false_iff_ne, ne_eq] at hg1
  refine VT_pures 11 (kn' := [(10, undef), (19, undef), (18, undef), (17, undef), (16, undef), (15, undef), (14, undef), (13, undef), (12, undef), (11, undef), (9, undef), (8, .bool true), (7, .bool true), (6, .bool false), (5, .pointer (some ⟨bk, 3, none⟩)), (4, .pointer (some ⟨bk, 0, none⟩)), (3, .pointer (some ⟨bk, 0, none⟩)), (2, .bool true), (1, .bool true), (0, .pointer (some ⟨bk, 0, none⟩))]) (by kernel_rfl) ?_
  refine VT_end ?_
  intro w8 hs4
  replace hS := Step.trans hS hs4
  replace ho := ho.no hs4
  refine VL_keep [7, 13, 24, 15] [(7, .bool true), (13, .bool true), (24, undef), (15, undef)] (by kernel_rfl) ?_
  refine VL_pure 24 [4] [(4, .bool true)] (by kernel_rfl) rfl ?_
  refine VL_end (by kernel_rfl) ?_
  refine VQ_next ?_
  refine VC_ret ?_
  refine VQ_ret1 (.bool true) (.inr rfl) rfl rfl ?_
  exact ⟨congrArg Value.bool (by first | exact fits_no (by first | assumption | simp_all) | exact fits_yes hb.toBkOk (by first | assumption | simp_all)), hS⟩

set_option maxRecDepth 100000 in
set_option maxHeartbeats 4000000 in
theorem btake_any (bk : Nat) (b : Bk) (t : Int) (w : World) (hb : BkI b) (ho : Own w bk #[.int .i64 b.step, .int .i64 b.early, .int .i64 b.next, .bool b.any] 127) :
  CV Try.prog 97 #[.pointer (some ⟨bk, 0, none⟩), .int .i64 t] w (fun x w1 => x = .bool (fitsB b t) ∧ Own w1 bk #[.int .i64 (takeB b t).step, .int .i64 (takeB b t).early, .int .i64 (takeB b t).next, .bool (takeB b t).any] 127 ∧ Step (Just bk) w w1) := by
 have hS : Step (Just bk) w w := Step.refl _ _
 refine CV_enter Try.f97 _ 27 [(0, .pointer (some ⟨bk, 0, none⟩)), (1, .int .i64 t)] Try.func97 rfl rfl (by kernel_rfl) rfl ?_
 refine VC_seq ?_
 refine VC_region ?_
 refine VL_pure 1 [0, 1] [(0, .pointer (some ⟨bk, 0, none⟩)), (1, .int .i64 t)] (by kernel_rfl) rfl ?_
 refine VL_end (by kernel_rfl) ?_
 refine VQ_next ?_
 refine VC_seq ?_
 refine VC_seq ?_
 refine VC_region ?_
 refine VL_pure 2 [0, 1, 5, 6] [(0, .pointer (some ⟨bk, 0, none⟩)), (1, .int .i64 t), (5, .pointer (some ⟨bk, 0, none⟩)), (6, .int .i64 t)] (by kernel_rfl) rfl ?_
 have hzs1 := hS.size
 have hzl1 := ho.lt
 refine VL_call (d := 7) (f := 96) (args := #[.pointer (some ⟨bk, 0, none⟩), .int .i64 t]) (by kernel_rfl) (by kernel_rfl) (by kernel_rfl) Try.call96 (bfits_any bk b t _ hb ho) ?_
 rintro _ w1 ⟨rfl, hc1⟩
 replace hS := Step.trans hS (Step.weak hc1)
 replace ho := ho.no hc1
 refine VL_pure 4 [0, 1, 8] [(0, .pointer (some ⟨bk, 0, none⟩)), (1, .int .i64 t), (8, .bool (!(fitsB b t)))] (by kernel_rfl) rfl ?_
 refine VL_end (by kernel_rfl) ?_
 refine VQ_next ?_
 refine VC_cond (!(fitsB b t)) (by kernel_rfl) (fun h1 => ?_) (fun h1 => ?_)
 ·try simp only [Bool.and_eq_true, Bool.or_eq_true, decide_eq_true_eq, Bool.not_eq_true', decide_eq_false_iff_not, Bool.and_eq_false_iff, Bool.or_eq_false_iff, beq_iff_eq, bne_iff_ne, beq_eq_false_iff_ne, bne_eq_false_iff_eq, Bool.not_eq_eq_eq_not, Bool.not_true, Bool.not_false] at h1
  refine VC_seq ?_
  refine VC_region ?_
  refine VL_pure 1 [4] [(4, .bool false)] (by kernel_rfl) rfl ?_
  refine VL_end (by kernel_rfl) ?_
  refine VQ_next ?_
  refine VC_ret ?_
  refine VQ_then_ret ?_
  refine VQ_ret1 (.bool false) (.inr rfl) rfl rfl ?_
  exact ⟨congrArg Value.bool h1.symm, Own.cast ho (by unfold takeB; rw [if_neg (by rw [h1]; decide)]), hS⟩
 ·try simp only [Bool.and_eq_true, Bool.or_eq_true, decide_eq_true_eq, Bool.not_eq_true', decide_eq_false_iff_not, Bool.and_eq_false_iff, Bool.or_eq_false_iff, beq_iff_eq, bne_iff_ne, beq_eq_false_iff_ne, bne_eq_false_iff_eq, Bool.not_eq_eq_eq_not, Bool.not_true, Bool.not_false] at h1
  refine VC_skip ?_
  refine VQ_next ?_
  refine VC_seq ?_
  refine VC_det [[], [], [1], [1, 2], [1, 2, 3], [], [5], [1, 2, 3, 4, 5, 6], [], [8], [8, 9], [8, 9, 10], [1, 2, 3, 4, 5, 6, 7, 8, 9, 10, 11], [0, 1, 2, 3, 4, 5, 6, 7, 8, 9, 10, 11, 12], [0, 1, 2, 3, 4, 5, 6, 7, 8, 9, 10, 11, 12, 13], [0, 1, 2, 3, 4, 5, 6, 7, 8, 9, 10, 11, 12, 13, 14]] 13 [.pointer (some ⟨bk, 0, none⟩), .pointer (some ⟨bk, 0, none⟩), .pointer (some ⟨bk, 0, none⟩), .pointer (some ⟨bk, 2, none⟩), .int .i64 b.next, .int .i64 t, .int .i64 (imax 0 (imin t 1152921504606846976)), .int .i64 (imax b.next (imax 0 (imin t 1152921504606846976))), .pointer (some ⟨bk, 0, none⟩), .pointer (some ⟨bk, 0, none⟩), .pointer (some ⟨bk, 0, none⟩), .int .i64 b.step, .int .i64 (IntKind.wrap .i64 ((imax b.next (imax 0 (imin t 1152921504606846976))) + b.step))] [0, 1, 2, 3, 5, 7, 8, 9, 10, 12] [4, 6, 11] (by kernel_rfl) (by kernel_rfl) (by kernel_rfl) (by kernel_rfl) ?_ ?_
  ·intro w2 hs1
   replace hS := Step.trans hS (Step.weak hs1)
   replace ho := ho.no hs1
   exact ⟨Det1_load (d := 13) (t := 3) (a := ⟨bk, 2, none⟩) (by kernel_rfl) (by kernel_rfl) (Loads.own1 ho (by kernel_rfl) (by rfl)), Det1_call (d := 15) (f := 72) (args := #[.int .i64 t, .int .i64 0, .int .i64 1152921504606846976]) (by kernel_rfl) (by kernel_rfl) (by kernel_rfl) Try.call72 (by exact (within_ce t 0 1152921504606846976).no _), Det1_load (d := 20) (t := 3) (a := ⟨bk, 0, none⟩) (by kernel_rfl) (by kernel_rfl) (Loads.own1 ho (by kernel_rfl) (by rfl)), trivial⟩
  intro w2 hs1
  replace hS := Step.trans hS (Step.weak hs1)
  replace ho := ho.no hs1
  refine VL_keep [0, 9, 21] [(0, .pointer (some ⟨bk, 0, none⟩)), (9, .pointer (some ⟨bk, 0, none⟩)), (21, .int .i64 (IntKind.wrap .i64 ((imax b.next (imax 0 (imin t 1152921504606846976))) + b.step)))] (by kernel_rfl) ?_
  refine VL_pure 15 [0, 21, 23] [(0, .pointer (some ⟨bk, 0, none⟩)), (21, .int .i64 (IntKind.wrap .i64 ((imax b.next (imax 0 (imin t 1152921504606846976))) + b.step))), (23, .pointer (some ⟨bk, 2, none⟩))] (by kernel_rfl) rfl ?_
  refine VL_store (b := bk) (o := 2) (vs := [.int .i64 (IntKind.wrap .i64 ((imax b.next (imax 0 (imin t 1152921504606846976))) + b.step))]) (by kernel_rfl) (by kernel_rfl) ho (Nat.le_of_ble_eq_true (by kernel_rfl)) ?_
  intro w3 hw1
  replace hS := Step.trans hS (Step.mono hw1.step (by intro i hi; first | exact hi | exact ⟨_, by assumption, hi⟩ | (have hi9 : i = bk := hi; (first | show _ ∨ _ | show _ = _); omega)))
  have ho1 : Own w3 bk #[.int .i64 b.step, .int .i64 b.early, .int .i64 (IntKind.wrap .i64 ((imax b.next (imax 0 (imin t 1152921504606846976))) + b.step)), .bool b.any] 127 := Own.cast hw1.own (by kernel_rfl)
  have hzhw1 := hw1.same
  refine VL_end (by kernel_rfl) ?_
  refine VQ_next ?_
  refine VC_seq ?_
  refine VC_region ?_
  refine VL_pure 3 [26] [(26, .pointer (some ⟨bk, 3, none⟩))] (by kernel_rfl) rfl ?_
  refine VL_store (b := bk) (o := 3) (vs := [.bool true]) (by kernel_rfl) (by kernel_rfl) ho1 (Nat.le_of_ble_eq_true (by kernel_rfl)) ?_
  intro w4 hw2
  replace hS := Step.trans hS (Step.mono hw2.step (by intro i hi; first | exact hi | exact ⟨_, by assumption, hi⟩ | (have hi9 : i = bk := hi; (first | show _ ∨ _ | show _ = _); omega)))
  have ho2 : Own w4 bk #[.int .i64 b.step, .int .i64 b.early, .int .i64 (IntKind.wrap .i64 ((imax b.next (imax 0 (imin t 1152921504606846976))) + b.step)), .bool true] 127 := Own.cast hw2.own (by kernel_rfl)
  have hzhw2 := hw2.same
  refine VL_end (by kernel_rfl) ?_
  refine VQ_next ?_
  refine VC_seq ?_
  refine VC_region ?_
  refine VL_pure 1 [4] [(4, .bool true)] (by kernel_rfl) rfl ?_
  refine VL_end (by kernel_rfl) ?_
  refine VQ_next ?_
  refine VC_ret ?_
  refine VQ_ret1 (.bool true) (.inr rfl) rfl rfl ?_
  exact ⟨congrArg Value.bool h1.symm, Own.cast ho2 (by have h9 := hb.max_le h1; have h8 := hb.step; unfold takeB; rw [if_pos h1]; simp only; rw [show IntKind.wrap .i64 (imax b.next (imax 0 (imin t 1152921504606846976)) + b.step) = imax b.next (clT t) + b.step from wrap_i64 _ (by unfold clT at h9; omega) (by unfold clT at h9; omega)]), hS⟩

end Go.Proofs.Ythchmlidobgkoaa
end

section
/- Layer 20: what lies in memory: ledgers, policers. -/
set_option linter.unusedVariables false
set_option linter.unusedSimpArgs false
namespace Go.Proofs.Ythchmlidobgkoaa
open Go.Vc Go.RowKit

abbrev ei (n : Int) : Value := .int .i64 n
abbrev ui (n : Int) : Value := .int .i64 n
theorem keyTi : KeyT Try.prog 3 ei := keyT_int (by kernel_rfl)

section
variable {w w' : World} {F : Nat → Prop}
/-! ### Ledgers -/
structure Ld (w : World) (lg lm : Nat) (room used : Int) (N : List (Int × Int)) : Prop where
  own : Own w lg #[.int .i64 room, .int .i64 used, .map (some lm)] 80
  map : MapL w lm ei ui N
theorem Ld.ne {lg lm : Nat} {room used : Int} {N : List (Int × Int)} (h : Ld w lg lm room used N) : lg ≠ lm := by
  rintro rfl
  obtain ⟨⟨es, ck, h1, _⟩, _⟩ := h.map
  have := h.own
  unfold Own at this
  rw [h1] at this; cases this
theorem Ld.step {lg lm : Nat} {room used : Int} {N : List (Int × Int)} (h : Ld w lg lm room used N) (hs : Step F w w') (h1 : ¬ F lg) (h2 : ¬ F lm) : Ld w' lg lm room used N := ⟨h.own.step hs h1, h.map.step hs h2⟩
theorem Ld.no {lg lm : Nat} {room used : Int} {N : List (Int × Int)} (h : Ld w lg lm room used N) (hs : Step No w w') : Ld w' lg lm room used N := h.step hs id id
theorem Ld.lt {lg lm : Nat} {room used : Int} {N : List (Int × Int)} (h : Ld w lg lm room used N) : lg < w.heap.size ∧ lm < w.heap.size := ⟨h.own.lt, h.map.lt⟩
end

/-! ### Policers -/
abbrev Rb := Rl × Nat
def rlc (p : Rb) : List Value := [.int .i64 p.1.step, .int .i64 p.1.early, .bool p.1.zero, .bool p.1.tag, .iface 111 (.pointer (some ⟨p.2, 0, none⟩))]
theorem rlc_len (p : Rb) : (rlc p).length = 5 := rfl
theorem rlc_one (p : Rb) : ∀ u ∈ rlc p, oneC u = true := by
  intro u hu
  simp only [rlc, List.mem_cons, List.not_mem_nil, or_false] at hu
  rcases hu with rfl | rfl | rfl | rfl | rfl <;> rfl
def BksW (w : World) (l : List Rb) : Prop := ∀ p ∈ l, Own w p.2 #[.int .i64 p.1.b.step, .int .i64 p.1.b.early, .int .i64 p.1.b.next, .bool p.1.b.any] 127
def PT (w : World) (k : Nat) : Prop := TyB w 103 k ∨ TyB w 98 k ∨ TyB w 127 k
section
variable {w w' : World} {F : Nat → Prop} {l : List Rb}
theorem BksW.step (h : BksW w l) (hs : Step F w w') (hF : ∀ p ∈ l, ¬ F p.2) : BksW w' l := fun p hp => (h p hp).step hs (hF p hp)
theorem BksW.no (h : BksW w l) (hs : Step No w w') : BksW w' l := h.step hs fun _ _ => id
theorem BksW.lt (h : BksW w l) : ∀ p ∈ l, p.2 < w.heap.size := fun p hp => (h p hp).lt
theorem PT.lt {k : Nat} (h : PT w k) : k < w.heap.size := by rcases h with h | h | h <;> exact h.lt
theorem PT.step {k : Nat} (h : PT w k) (hs : Step F w w') (hF : ¬ F k) : PT w' k := by
  rcases h with h | h | h
  · exact .inl (h.step hs hF)
  · exact .inr (.inl (h.step hs hF))
  · exact .inr (.inr (h.step hs hF))
def polArr (a : Bool) (rb n c : Nat) (c0 c1 c2 c3 : Int) : Array Value := #[.bool a, .slice (some ⟨rb, 0, none⟩) n c, .int .i64 c0, .int .i64 c1, .int .i64 c2, .int .i64 c3]
/-- A policer at an address: its rules and their buckets; all that it has lies in Y. -/
structure PlX (w : World) (pp : Nat) (Y : Nat → Prop) (a : Bool) (l : List Rb) (rb c : Nat) (c0 c1 c2 c3 : Int) : Prop where
  own : Own w pp (polArr a rb l.length c c0 c1 c2 c3) 103
  row : RowE w rb 98 (flat rlc l)
  bks : BksW w l
  nodup : (l.map (·.2)).Nodup
  inP : Y pp
  inR : Y rb
  inB : ∀ p ∈ l, Y p.2
  ty : ∀ k, Y k → PT w k
  pos : 0 < l.length
def Pl (w : World) (pp : Nat) (Y : Nat → Prop) (a : Bool) (rs : List Rl) : Prop := RlsI rs ∧ ∃ l rb c c0 c1 c2 c3, rs = l.map (·.1) ∧ PlX w pp Y a l rb c c0 c1 c2 c3
theorem PlX.step {pp : Nat} {Y : Nat → Prop} {a : Bool} {rb c : Nat} {c0 c1 c2 c3 : Int} (h : PlX w pp Y a l rb c c0 c1 c2 c3) (hs : Step F w w') (hF : ∀ k, Y k → ¬ F k) : PlX w' pp Y a l rb c c0 c1 c2 c3 :=
  ⟨h.own.step hs (hF _ h.inP), h.row.step hs (hF _ h.inR), h.bks.step hs fun p hp => hF _ (h.inB p hp), h.nodup, h.inP, h.inR, h.inB, fun k hk => (h.ty k hk).step hs (hF k hk), h.pos⟩
theorem Pl.step {pp : Nat} {Y : Nat → Prop} {a : Bool} {rs : List Rl} (h : Pl w pp Y a rs) (hs : Step F w w') (hF : ∀ k, Y k → ¬ F k) : Pl w' pp Y a rs := by
  obtain ⟨h0, l, rb, c, c0, c1, c2, c3, h1, h2⟩ := h
  exact ⟨h0, l, rb, c, c0, c1, c2, c3, h1, h2.step hs hF⟩
theorem Pl.no {pp : Nat} {Y : Nat → Prop} {a : Bool} {rs : List Rl} (h : Pl w pp Y a rs) (hs : Step No w w') : Pl w' pp Y a rs := h.step hs fun _ _ => id
theorem Pl.inP {pp : Nat} {Y : Nat → Prop} {a : Bool} {rs : List Rl} (h : Pl w pp Y a rs) : Y pp := by obtain ⟨h0, l, rb, c, c0, c1, c2, c3, h1, h2⟩ := h; exact h2.inP
theorem Pl.ty {pp : Nat} {Y : Nat → Prop} {a : Bool} {rs : List Rl} (h : Pl w pp Y a rs) {k : Nat} (hk : Y k) : PT w k := by obtain ⟨h0, l, rb, c, c0, c1, c2, c3, h1, h2⟩ := h; exact h2.ty k hk
theorem Pl.lt {pp : Nat} {Y : Nat → Prop} {a : Bool} {rs : List Rl} (h : Pl w pp Y a rs) : pp < w.heap.size := (h.ty h.inP).lt
theorem PlX.ne_row {pp : Nat} {Y : Nat → Prop} {a : Bool} {rb c : Nat} {c0 c1 c2 c3 : Int} (h : PlX w pp Y a l rb c c0 c1 c2 c3) : rb ≠ pp := by
  rintro rfl; exact absurd (h.row.ty.two h.own.tyB) (by decide)
theorem PlX.ne_b {pp : Nat} {Y : Nat → Prop} {a : Bool} {rb c : Nat} {c0 c1 c2 c3 : Int} (h : PlX w pp Y a l rb c c0 c1 c2 c3) (p : Rb) (hp : p ∈ l) : p.2 ≠ pp ∧ p.2 ≠ rb := by
  have h1 := (h.bks p hp).tyB
  exact ⟨fun e => by rw [e] at h1; exact absurd (h1.two h.own.tyB) (by decide), fun e => by rw [e] at h1; exact absurd (h1.two h.row.ty) (by decide)⟩
end

/-! ### What is asked of a policer -/
def askL (clp : Int) (l : List Rb) : List Rb := l.filter fun p => askB clp p.1
def askV (clp : Int) (l : List Rb) : List (Array Value) := (askL clp l).map fun p => #[.agg (rlc p).toArray]
def cntA (clp : Int) (l : List Rb) (j : Nat) : Nat := (askL clp (l.take j)).length
theorem take_one {α : Type} {l : List α} {j : Nat} {y : α} (hy : l[j]? = some y) : l.take (j + 1) = l.take j ++ [y] := by rw [List.take_add_one, hy]; rfl
theorem cntA_yes {clp : Int} {l : List Rb} {j : Nat} {y : Rb} (hy : l[j]? = some y) (ha : askB clp y.1 = true) : cntA clp l (j + 1) = cntA clp l j + 1 := by
  unfold cntA askL; rw [take_one hy, List.filter_append, List.length_append]; simp [ha]
theorem cntA_no {clp : Int} {l : List Rb} {j : Nat} {y : Rb} (hy : l[j]? = some y) (ha : askB clp y.1 = false) : cntA clp l (j + 1) = cntA clp l j := by
  unfold cntA askL; rw [take_one hy, List.filter_append, List.length_append]; simp [ha]
theorem cntA_len (clp : Int) (l : List Rb) : cntA clp l l.length = (askV clp l).length := by unfold cntA askV; rw [List.take_length, List.length_map]
theorem cntA_le (clp : Int) (l : List Rb) (j : Nat) : cntA clp l j ≤ (askV clp l).length := by
  unfold cntA askV askL; rw [List.length_map]
  exact (List.Sublist.filter _ (List.take_sublist j l)).length_le
theorem askV_get {clp : Int} {l : List Rb} {j : Nat} {y : Rb} (hy : l[j]? = some y) (ha : askB clp y.1 = true) : (askV clp l)[cntA clp l j]? = some #[.agg #[.int .i64 y.1.step, .int .i64 y.1.early, .bool y.1.zero, .bool y.1.tag, .iface 111 (.pointer (some ⟨y.2, 0, none⟩))]] := by
  have h : l = l.take j ++ y :: l.drop (j + 1) := by
    obtain ⟨hlt, hg⟩ := List.getElem?_eq_some_iff.1 hy
    have h1 := List.drop_eq_getElem_cons hlt
    rw [hg] at h1
    rw [← h1, List.take_append_drop]
  unfold askV cntA
  rw [List.getElem?_map]
  have h2 : (askL clp l)[(askL clp (l.take j)).length]? = some y := by
    conv => lhs; arg 1; rw [h]
    unfold askL
    rw [List.filter_append, List.filter_cons_of_pos (p := fun p : Rb => askB clp p.1) ha, List.getElem?_append_right (Nat.le_refl _), Nat.sub_self]
    rfl
  rw [h2]; rfl
theorem askV_mem {clp : Int} {l : List Rb} {k : Nat} {args : Array Value} (h : (askV clp l)[k]? = some args) : ∃ y, (askL clp l)[k]? = some y ∧ y ∈ l ∧ args = #[.agg #[.int .i64 y.1.step, .int .i64 y.1.early, .bool y.1.zero, .bool y.1.tag, .iface 111 (.pointer (some ⟨y.2, 0, none⟩))]] := by
  unfold askV at h
  rw [List.getElem?_map] at h
  obtain ⟨y, hy, rfl⟩ := Option.map_eq_some_iff.1 h
  exact ⟨y, hy, (List.mem_filter.1 (List.mem_of_getElem? hy)).1, rfl⟩
theorem askV_sz (clp : Int) (l : List Rb) : ∀ a ∈ askV clp l, a.size = 1 := by
  intro a ha
  obtain ⟨p, _, rfl⟩ := List.mem_map.1 ha
  rfl
theorem askV_lenL (clp : Int) (l : List Rb) : (askV clp l).length = (askL clp l).length := by unfold askV; rw [List.length_map]
/-- The verdict so far. -/
def verdK (t clp : Int) (l : List Rb) (k : Nat) : Int := ((askL clp l).take k).foldl (fun v p => vS t v p.1) 1
theorem verdK_zero (t clp : Int) (l : List Rb) : verdK t clp l 0 = 1 := rfl
theorem verdK_succ {t clp : Int} {l : List Rb} {k : Nat} {y : Rb} (hy : (askL clp l)[k]? = some y) : verdK t clp l (k + 1) = vS t (verdK t clp l k) y.1 := by
  unfold verdK; rw [take_one hy, List.foldl_append]; rfl
theorem foldl_map' (t : Int) : ∀ (l : List Rb) (v : Int), (l.map (·.1)).foldl (vS t) v = l.foldl (fun v p => vS t v p.1) v
  | [], v => rfl
  | p :: l, v => by simp only [List.map_cons, List.foldl_cons]; exact foldl_map' t l _
theorem filter_map' (clp : Int) : ∀ (l : List Rb), (l.map (·.1)).filter (askB clp) = (askL clp l).map (·.1)
  | [] => rfl
  | p :: l => by
    unfold askL
    simp only [List.map_cons, List.filter_cons]
    have := filter_map' clp l
    unfold askL at this
    split <;> simp [this]
theorem verdK_all (t clp : Int) (l : List Rb) : verdK t clp l (askV clp l).length = verdR t clp (l.map (·.1)) := by
  unfold verdK verdR
  rw [askV_lenL, List.take_length, filter_map', foldl_map']
theorem verdK_three {t clp : Int} {l : List Rb} {k : Nat} (h : verdK t clp l k = 3) : verdR t clp (l.map (·.1)) = 3 := by
  rw [← verdK_all, askV_lenL]
  unfold verdK at h ⊢
  rw [List.take_length]
  rw [← List.take_append_drop k (askL clp l), List.foldl_append, h, ← foldl_map']
  exact fold_three t _
end Go.Proofs.Ythchmlidobgkoaa
end
