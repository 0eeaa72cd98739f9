import Derived.Test.YthchmlidobgkoaaGreatProg
import Derived.Test.YthchmlidobgkoaaGreatMb2
section
/- The calculus' maps: a map is a list of keys and values (each key once); making one, looking up, putting, deleting, counting. -/
set_option linter.unusedVariables false
set_option linter.unusedSimpArgs false
namespace Go.Vc
open Go.RowKit

/-! ### 1. Lists of keys and values -/
section
variable {κ ν : Type} [DecidableEq κ]
def getM : List (κ × ν) → κ → Option ν
  | [], _ => none
  | p :: L, k => if p.1 = k then some p.2 else getM L k
def putM : List (κ × ν) → κ → ν → List (κ × ν)
  | [], k, v => [(k, v)]
  | p :: L, k, v => if p.1 = k then (k, v) :: L else p :: putM L k v
def delM : List (κ × ν) → κ → List (κ × ν)
  | [], _ => []
  | p :: L, k => if p.1 = k then L else p :: delM L k
def posM : List (κ × ν) → κ → Nat → Option (Nat × ν)
  | [], _, _ => none
  | p :: L, k, i => if p.1 = k then some (i, p.2) else posM L k (i + 1)
abbrev Keys1 (L : List (κ × ν)) : Prop := (L.map (·.1)).Nodup

theorem getM_none {L : List (κ × ν)} {k : κ} : getM L k = none ↔ k ∉ L.map (·.1) := by
  induction L with
  | nil => simp [getM]
  | cons p L ih =>
    simp only [getM, List.map_cons, List.mem_cons, not_or]
    by_cases h : p.1 = k
    · simp [h]
    · rw [if_neg h, ih]
      exact ⟨fun x => ⟨fun e => h e.symm, x⟩, fun x => x.2⟩
theorem posM_get {L : List (κ × ν)} {k : κ} : ∀ i, (posM L k i).map (·.2) = getM L k := by
  induction L with
  | nil => intro i; rfl
  | cons p L ih => intro i; simp only [posM, getM]; split <;> simp [ih]
theorem posM_none {L : List (κ × ν)} {k : κ} {i : Nat} (h : posM L k i = none) : putM (ν := ν) L k = fun v => L ++ [(k, v)] := by
  funext v
  induction L generalizing i with
  | nil => rfl
  | cons p L ih =>
    simp only [posM] at h
    by_cases e : p.1 = k
    · rw [if_pos e] at h; cases h
    · rw [if_neg e] at h; simp only [putM, if_neg e, ih h, List.cons_append]
theorem posM_none_del {L : List (κ × ν)} {k : κ} {i : Nat} (h : posM L k i = none) : delM L k = L := by
  induction L generalizing i with
  | nil => rfl
  | cons p L ih =>
    simp only [posM] at h
    by_cases e : p.1 = k
    · rw [if_pos e] at h; cases h
    · rw [if_neg e] at h; simp only [delM, if_neg e, ih h]
theorem posM_some {L : List (κ × ν)} {k : κ} {i j : Nat} {v : ν} (h : posM L k i = some (j, v)) : ∃ q, j = i + q ∧ L[q]? = some (k, v) ∧ (∀ u, putM L k u = L.set q (k, u)) ∧ delM L k = L.eraseIdx q := by
  induction L generalizing i with
  | nil => cases h
  | cons p L ih =>
    simp only [posM] at h
    by_cases e : p.1 = k
    · rw [if_pos e] at h
      simp only [Option.some.injEq, Prod.mk.injEq] at h
      obtain ⟨rfl, rfl⟩ := h
      refine ⟨0, rfl, ?_, fun u => ?_, ?_⟩
      · subst e; rfl
      · simp [putM, e]
      · simp [delM, e]
    · rw [if_neg e] at h
      obtain ⟨q, h1, h2, h3, h4⟩ := ih h
      refine ⟨q + 1, by omega, by simpa using h2, fun u => ?_, ?_⟩
      · simp only [putM, if_neg e, h3, List.set_cons_succ]
      · simp only [delM, if_neg e, h4, List.eraseIdx_cons_succ]
theorem mem_putM {L : List (κ × ν)} {k x : κ} {v : ν} : x ∈ (putM L k v).map (·.1) ↔ x = k ∨ x ∈ L.map (·.1) := by
  induction L with
  | nil => simp [putM]
  | cons p L ih =>
    simp only [putM]
    by_cases e : p.1 = k
    · rw [if_pos e]; subst e; simp
    · rw [if_neg e]
      simp only [List.map_cons, List.mem_cons, ih]
      constructor
      · rintro (h | h | h)
        · exact .inr (.inl h)
        · exact .inl h
        · exact .inr (.inr h)
      · rintro (h | h | h)
        · exact .inr (.inl h)
        · exact .inl h
        · exact .inr (.inr h)
theorem Keys1.put {L : List (κ × ν)} (h : Keys1 L) (k : κ) (v : ν) : Keys1 (putM L k v) := by
  induction L with
  | nil => simp [putM, Keys1]
  | cons p L ih =>
    obtain ⟨h1, h2⟩ := List.nodup_cons.1 h
    simp only [putM]
    by_cases e : p.1 = k
    · rw [if_pos e]; subst e; exact List.nodup_cons.2 ⟨h1, h2⟩
    · rw [if_neg e]
      refine List.nodup_cons.2 ⟨fun hm => ?_, ih h2⟩
      rcases mem_putM.1 hm with h | h
      · exact e h
      · exact h1 h
theorem mem_delM {L : List (κ × ν)} {k x : κ} (h : x ∈ (delM L k).map (·.1)) : x ∈ L.map (·.1) := by
  induction L with
  | nil => exact h
  | cons p L ih =>
    simp only [delM] at h
    by_cases e : p.1 = k
    · rw [if_pos e] at h; exact List.mem_cons_of_mem _ h
    · rw [if_neg e] at h
      rcases List.mem_cons.1 h with h | h
      · rw [h]; exact List.mem_cons_self ..
      · exact List.mem_cons_of_mem _ (ih h)
theorem Keys1.del {L : List (κ × ν)} (h : Keys1 L) (k : κ) : Keys1 (delM L k) := by
  induction L with
  | nil => exact h
  | cons p L ih =>
    obtain ⟨h1, h2⟩ := List.nodup_cons.1 h
    simp only [delM]
    by_cases e : p.1 = k
    · rw [if_pos e]; exact h2
    · rw [if_neg e]; exact List.nodup_cons.2 ⟨fun hm => h1 (mem_delM hm), ih h2⟩
theorem getM_put (L : List (κ × ν)) (k : κ) (v : ν) (x : κ) : getM (putM L k v) x = if k = x then some v else getM L x := by
  induction L with
  | nil => simp [putM, getM]
  | cons p L ih =>
    simp only [putM]
    by_cases e : p.1 = k
    · rw [if_pos e]
      simp only [getM]
      subst e
      split <;> rfl
    · rw [if_neg e]
      simp only [getM, ih]
      by_cases h : p.1 = x
      · rw [if_pos h, if_neg (fun q => e (h.trans q.symm)), if_pos h]
      · rw [if_neg h, if_neg h]
theorem getM_del {L : List (κ × ν)} (h : Keys1 L) (k x : κ) : getM (delM L k) x = if k = x then none else getM L x := by
  induction L with
  | nil => simp [delM, getM]
  | cons p L ih =>
    obtain ⟨h1, h2⟩ := List.nodup_cons.1 h
    simp only [delM]
    by_cases e : p.1 = k
    · rw [if_pos e]
      by_cases hx : k = x
      · rw [if_pos hx]; exact getM_none.2 (by subst hx; subst e; exact h1)
      · rw [if_neg hx]; simp only [getM]; rw [if_neg (fun q => hx (e.symm.trans q))]
    · rw [if_neg e]
      simp only [getM, ih h2]
      by_cases h : p.1 = x
      · rw [if_pos h, if_neg (fun q => e (h.trans q.symm)), if_pos h]
      · rw [if_neg h, if_neg h]
end

/-! ### 2. Types of keys -/
structure KeyT (P : Program) (kt : TypeId) {κ : Type} [DecidableEq κ] (ek : κ → Value) : Prop where
  check : ∀ e k w, (Instr.checkKey e 10000 kt (ek k)).run P w = .ok () w
  find : ∀ {ν : Type} (u : ν → Value) (k : κ) (es : List MapEntry) (L : List (κ × ν)) (w : World), es.map (fun e => (e.key, e.val)) = L.map (fun p => (ek p.1, u p.2)) → (Instr.findKey kt (ek k) es).run P w = .ok ((posM L k 0).map fun q => (q.1, u q.2)) w
  stays : ∀ k w, (Instr.keyThatStays (ek k) (ek k)).run P w = .ok (ek k) w

theorem keyT_int {P : Program} {kt : TypeId} {kk : IntKind} (h : P.underlying kt = some (.int kk)) : KeyT P kt (κ := Int) (fun x => .int kk x) where
  check e k w := by
    unfold Instr.checkKey
    simp only [Sem.run_bind, run_underlying' h, Result.andThen_ok]
    rfl
  find u k es L w he := by
    have key : ∀ (es : List MapEntry) L i, es.map (fun e => (e.key, e.val)) = L.map (fun p => (Value.int kk p.1, u p.2)) → Instr.findNow (.int kk) (.int kk k) es i = some ((posM L k i).map fun q => (q.1, u q.2)) := by
      intro es
      induction es with
      | nil => intro L i h; cases L; rfl; cases h
      | cons e es ih =>
        intro L i h
        cases L with
        | nil => cases h
        | cons p L =>
          simp only [List.map_cons, List.cons.injEq, Prod.mk.injEq] at h
          obtain ⟨⟨h1, h2⟩, h3⟩ := h
          simp only [Instr.findNow, h1, Instr.sameNow, if_true, posM]
          by_cases e : p.1 = k
          · subst e; simp [h2]
          · have : (k == p.1) = false := by simpa using fun q => e q.symm
            simp only [this, if_neg e, ih L (i + 1) h3]
    simp only [Instr.findKey, Sem.run_bind, run_underlying' h, Result.andThen_ok, key es L 0 he, Sem.run_pure]
  stays k w := by
    have : Instr.sameBits 10000 (.int kk k) (.int kk k) = true := by
      unfold Instr.sameBits; simp
    unfold Instr.keyThatStays
    rw [this]
    rfl

/-! ### 3. A map's block -/
def MapL {κ ν : Type} (w : World) (m : Nat) (ek : κ → Value) (u : ν → Value) (L : List (κ × ν)) : Prop :=
  (∃ es ck, w.heap[m]? = some (.map es ck) ∧ es.toList.map (fun e => (e.key, e.val)) = L.map (fun p => (ek p.1, u p.2))) ∧ Keys1 L
section
variable {κ ν : Type} {w w' w1 : World} {m : Nat} {ek : κ → Value} {u : ν → Value} {L : List (κ × ν)} {F : Nat → Prop}
theorem MapL.lt (h : MapL w m ek u L) : m < w.heap.size := by obtain ⟨⟨es, ck, h, _⟩, _⟩ := h; exact (Array.getElem?_eq_some_iff.1 h).1
theorem MapL.keys (h : MapL w m ek u L) : Keys1 L := h.2
theorem MapL.step (h : MapL w m ek u L) (hs : Step F w w') (hF : ¬ F m) : MapL w' m ek u L := by
  have hl := h.lt
  obtain ⟨⟨es, ck, h, h2⟩, h3⟩ := h
  exact ⟨⟨es, ck, (hs.block m hl hF).trans h, h2⟩, h3⟩
theorem MapL.no (h : MapL w m ek u L) (hs : Step No w w') : MapL w' m ek u L := h.step hs id
theorem New.map (h : New w w' m (.map #[] 0)) (ek : κ → Value) (u : ν → Value) : MapL w' m ek u [] := ⟨⟨#[], 0, h.get, rfl⟩, List.nodup_nil⟩
theorem set_step {w : World} {m : Nat} {o o' : Obj} (h : w.heap[m]? = some o) : Step (Just m) w { w with heap := w.heap.setIfInBounds m o' } ∧ ({ w with heap := w.heap.setIfInBounds m o' } : World).heap.size = w.heap.size ∧ ({ w with heap := w.heap.setIfInBounds m o' } : World).heap[m]? = some o' := by
  have hlt : m < w.heap.size := (Array.getElem?_eq_some_iff.1 h).1
  refine ⟨⟨rfl, rfl, rfl, by simp, fun k hk hne => ?_⟩, by simp, by simp [hlt]⟩
  have hne : k ≠ m := hne
  simp [Ne.symm hne]
end

section
variable {κ ν : Type} {r : Option Nat} {n : Nat} {ds : List Deferred} {P : Program} {ops : Array Oper} {Q : Exit → Act → World → Prop} {l : List (Nat × Value)} {w : World} {i : Nat} {K : List (Nat × Value) → World → Prop} {ek : κ → Value} {u : ν → Value} {L : List (κ × ν)}
theorem run_getObj' {w : World} {m : Nat} {es : Array MapEntry} {ck : Nat} (h : w.heap[m]? = some (.map es ck)) : (getObj m).run P w = .ok (.map es ck) w := by simp [getObj, Sem.run, h]
/-! ### 3b. Counting -/
end
section
variable {κ ν : Type} [DecidableEq κ] {r : Option Nat} {n : Nat} {ds : List Deferred} {P : Program} {ops : Array Oper} {Q : Exit → Act → World → Prop} {l : List (Nat × Value)} {w : World} {i : Nat} {K : List (Nat × Value) → World → Prop} {ek : κ → Value} {u : ν → Value} {L : List (κ × ν)}
theorem run_setObj' {w : World} {m : Nat} {es : Array MapEntry} {ck : Nat} (o : Obj) (h : w.heap[m]? = some (.map es ck)) : (setObj m o).run P w = .ok () { w with heap := w.heap.setIfInBounds m o } := by simp [setObj, Sem.run, h]

/-! ### 4. Making one -/
def mkMapOp (n : Nat) (ops : Array Oper) (l : List (Nat × Value)) (i : Nat) : Option Nat :=
  match theOp ops l i with
  | some { dst := some d, op := .makeMap _ none, .. } => bif Nat.blt d n then some d else none
  | _ => none
theorem V1_mkMap {d : Nat} (h : mkMapOp n ops l i = some d) (next : ∀ m w1, New w w1 m (.map #[] 0) → K ((d, .map (some m)) :: l) w1) : V1 r n ds P ops Q i l w K := by
  unfold mkMapOp at h
  split at h
  · rename_i _ d' t ty pos aft gd ho
    cases hb : Nat.blt d' n with
    | false => rw [hb] at h; cases h
    | true =>
      rw [hb] at h
      simp only [cond_true, Option.some.injEq] at h
      subst h
      refine V1_value ho rfl hb ?_ (next w.heap.size _ ⟨rfl, rfl⟩)
      simp only [execOp, Instr.makeMap, Option.map_none, newObj, Sem.run_bind, Sem.run, Result.andThen_ok, Sem.run_pure]
      rfl
  · cases h
theorem VL_mkMap {d : Nat} (h : mkMapOp n ops l i = some d) (hi : Nat.blt i ops.size = true) (next : ∀ m w1, New w w1 m (.map #[] 0) → VL r n ds P ops Q (i + 1) ((d, .map (some m)) :: l) w1) : VL r n ds P ops Q i l w := VL_of_V1 hi (V1_mkMap h next)

/-! ### 5. Looking up -/
def lookOp (P : Program) (n : Nat) (ops : Array Oper) (l : List (Nat × Value)) (i : Nat) : Option (Nat × Nat × TypeId × Value × Value × Bool) :=
  match theOp ops l i with
  | some { dst := some d, op := .lookup t x ix ok, .. } => match P.underlying t, evL l x with
    | some (.map kt et), .map (some m) => match (P.info? et).bind (·.zero) with
      | some z => bif Nat.blt d n then some (d, m, kt, z, evL l ix, ok) else none
      | none => none
    | _, _ => none
  | _ => none
theorem V1_lookup {d m : Nat} {kt : TypeId} {z : Value} {k : κ} {ok : Bool} (h : lookOp P n ops l i = some (d, m, kt, z, ek k, ok)) (hk : KeyT P kt ek) (hm : MapL w m ek u L) (v : Value) (hv : ((getM L k).map u).getD z = v) (next : K ((d, if ok then .tuple #[v, .bool (getM L k).isSome] else v) :: l) w) : V1 r n ds P ops Q i l w K := by
  unfold lookOp at h
  split at h
  · rename_i _ d' t x ix ok' ty pos aft gd ho
    split at h
    · rename_i kt' et m' hu hx
      split at h
      · rename_i z' hz
        cases hb : Nat.blt d' n with
        | false => rw [hb] at h; cases h
        | true =>
          rw [hb] at h
          simp only [cond_true, Option.some.injEq, Prod.mk.injEq] at h
          obtain ⟨rfl, rfl, rfl, rfl, hix, rfl⟩ := h
          obtain ⟨inf, hinf, hzz⟩ := Option.bind_eq_some_iff.1 hz
          obtain ⟨⟨es, ck, hes, heq⟩, _⟩ := hm
          have hzv : (zeroValue et).run P w = .ok z' w := by simp [zeroValue, typeInfo, program, Sem.run, hinf, hzz]
          refine V1_value ho rfl hb ?_ next
          have hp := posM_get (L := L) (k := k) 0
          simp only [execOp, Instr.lookup, Sem.run_bind, run_underlying' hu, Result.andThen_ok, hx, run_getObj' hes, Sem.run_pure, hix, hk.check, hk.find u k es.toList L w heq]
          cases hq : posM L k 0 with
          | none =>
            rw [hq] at hp
            rw [← hp] at hv
            simp only [Option.map_none, Option.getD_none] at hv
            simp only [Option.map_none, Sem.run_bind, hzv, Result.andThen_ok, Sem.run_pure, ← hp, hv, Option.isSome_none]
          | some q =>
            rw [hq] at hp
            rw [← hp] at hv
            simp only [Option.map_some, Option.getD_some] at hv
            simp only [Option.map_some, Sem.run_bind, Result.andThen_ok, Sem.run_pure, ← hp, hv, Option.isSome_some]
      · cases h
    · cases h
  · cases h
theorem VL_lookup {d m : Nat} {kt : TypeId} {z : Value} {k : κ} {ok : Bool} (h : lookOp P n ops l i = some (d, m, kt, z, ek k, ok)) (hi : Nat.blt i ops.size = true) (hk : KeyT P kt ek) (hm : MapL w m ek u L) (v : Value) (hv : ((getM L k).map u).getD z = v) (next : VL r n ds P ops Q (i + 1) ((d, if ok then .tuple #[v, .bool (getM L k).isSome] else v) :: l) w) : VL r n ds P ops Q i l w := VL_of_V1 hi (V1_lookup h hk hm v hv next)

/-! ### 6. Putting -/
structure WrM (w w' : World) (m : Nat) (ek : κ → Value) (u : ν → Value) (L : List (κ × ν)) : Prop where
  map : MapL w' m ek u L
  same : w'.heap.size = w.heap.size
  step : Step (Just m) w w'
def updOp (P : Program) (ops : Array Oper) (l : List (Nat × Value)) (i : Nat) : Option (Nat × TypeId × Value × Value) :=
  match theOp ops l i with
  | some { dst := none, op := .mapUpdate t x k y, .. } => match P.underlying t, evL l x with
    | some (.map kt _), .map (some m) => some (m, kt, evL l k, evL l y)
    | _, _ => none
  | _ => none
theorem run_upd {m : Nat} {t kt et : TypeId} {k : κ} {v : ν} (ht : P.underlying t = some (.map kt et)) (hk : KeyT P kt ek) (hm : MapL w m ek u L) : ∃ w1, (Instr.mapUpdate t (.map (some m)) (ek k) (u v)).run P w = .ok () w1 ∧ WrM w w1 m ek u (putM L k v) := by
  have hmm := hm
  obtain ⟨⟨es, ck, hes, heq⟩, hnd⟩ := hm
  have hf := hk.find u k es.toList L w heq
  cases hq : posM L k 0 with
  | none =>
    rw [hq] at hf
    obtain ⟨s1, s2, s3⟩ := set_step (o' := .map (es.push { key := ek k, val := u v, born := ck }) (ck + 1)) hes
    refine ⟨_, ?_, ?_, s2, s1⟩
    · simp only [Instr.mapUpdate, Sem.run_bind, run_underlying' ht, Result.andThen_ok, run_getObj' hes, hk.check, hf, Option.map_none, run_setObj' _ hes]
    · refine ⟨⟨_, _, s3, ?_⟩, hnd.put k v⟩
      rw [posM_none hq]
      simp [heq]
  | some q =>
    obtain ⟨j, y⟩ := q
    rw [hq] at hf
    obtain ⟨q, h1, h2, h3, _⟩ := posM_some hq
    have hj : j = q := by omega
    subst hj
    have hlen : es.toList.length = L.length := by have := congrArg List.length heq; simpa using this
    have hlt : j < L.length := (List.getElem?_eq_some_iff.1 h2).1
    have hsz : es.size = L.length := by simpa using hlen
    obtain ⟨ej, hej⟩ : ∃ x, es[j]? = some x := ⟨_, Array.getElem?_eq_getElem (by omega)⟩
    have hkey : ej.key = ek k := by
      have h9 := congrArg (fun z => z[j]?) heq
      simp only [List.getElem?_map, h2, Option.map_some, Array.getElem?_toList, hej, Option.some.injEq, Prod.mk.injEq] at h9
      exact h9.1
    obtain ⟨s1, s2, s3⟩ := set_step (o' := .map (es.modify j fun e => { e with key := ek k, val := u v }) ck) hes
    refine ⟨_, ?_, ?_, s2, s1⟩
    · simp only [Instr.mapUpdate, Sem.run_bind, run_underlying' ht, Result.andThen_ok, run_getObj' hes, hk.check, hf, Option.map_some, hej, Option.getD_some, hkey, hk.stays, run_setObj' _ hes]
    · refine ⟨⟨_, _, s3, ?_⟩, hnd.put k v⟩
      rw [h3]
      apply List.ext_getElem?
      intro a
      have h9 := congrArg (fun z => z[a]?) heq
      simp only [List.getElem?_map, Array.getElem?_toList] at h9
      simp only [List.getElem?_map, Array.getElem?_toList, Array.getElem?_modify, List.getElem?_set]
      by_cases e : j = a
      · subst e
        rw [if_pos rfl, if_pos rfl, if_pos hlt, hej]; rfl
      · rw [if_neg e, if_neg e]; exact h9
theorem V1_upd {m : Nat} {kt : TypeId} {k : κ} {v : ν} (h : updOp P ops l i = some (m, kt, ek k, u v)) (hk : KeyT P kt ek) (hm : MapL w m ek u L) (next : ∀ w1, WrM w w1 m ek u (putM L k v) → K l w1) : V1 r n ds P ops Q i l w K := by
  unfold updOp at h
  split at h
  · rename_i _ t x kx y ty pos aft gd ho
    split at h
    · rename_i kt' et m' hu hx
      simp only [Option.some.injEq, Prod.mk.injEq] at h
      obtain ⟨rfl, rfl, h1, h2⟩ := h
      obtain ⟨w1, hr, hw⟩ := run_upd (v := v) (k := k) hu hk hm
      refine V1_skip ho rfl ?_ (next w1 hw)
      simp only [execOp, hx, h1, h2, Sem.run_bind, hr, Result.andThen_ok, Sem.run_pure]
    · cases h
  · cases h
theorem VL_upd {m : Nat} {kt : TypeId} {k : κ} {v : ν} (h : updOp P ops l i = some (m, kt, ek k, u v)) (hi : Nat.blt i ops.size = true) (hk : KeyT P kt ek) (hm : MapL w m ek u L) (next : ∀ w1, WrM w w1 m ek u (putM L k v) → VL r n ds P ops Q (i + 1) l w1) : VL r n ds P ops Q i l w := VL_of_V1 hi (V1_upd h hk hm next)

/-! ### 7. Deleting -/
theorem map_eraseIdx' {α β : Type} (f : α → β) : ∀ (l : List α) (j : Nat), (l.eraseIdx j).map f = (l.map f).eraseIdx j
  | [], _ => rfl
  | _ :: _, 0 => rfl
  | a :: l, j + 1 => by simp only [List.eraseIdx_cons_succ, List.map_cons, map_eraseIdx' f l j]
theorem V1_value0 {o : Oper} {v : Value} {w1 : World} (ho : theOp ops l i = some o) (hd : o.dst = none) (hrun : (execOp (evL l) o).run P w = .ok (.value v) w1) (h : K l w1) : V1 r n ds P ops Q i l w K := by
  obtain ⟨h1, h2, h3⟩ := theOp_spec ho
  refine V1_run h1 h2 h3 fun a ha => ?_
  rw [hrun]
  exact ⟨_, by rw [hd]; exact ha, h⟩
def delOp (P : Program) (ops : Array Oper) (l : List (Nat × Value)) (i : Nat) : Option (Nat × TypeId × Value) :=
  match theOp ops l i with
  | some { dst := none, op := .call { callee := .builtin .delete, args := ags, argTypes := ts }, .. } =>
    match ((ts[0]?).bind P.underlying : Option TypeDesc), ((ags.map (evL l))[0]? : Option Value), ((ags.map (evL l))[1]? : Option Value) with
    | some (TypeDesc.map kt _), some (Value.map (some m)), some k => some (m, kt, k)
    | _, _, _ => none
  | _ => none
theorem V1_del {m : Nat} {kt : TypeId} {k : κ} (h : delOp P ops l i = some (m, kt, ek k)) (hk : KeyT P kt ek) (hm : MapL w m ek u L) (next : ∀ w1, WrM w w1 m ek u (delM L k) → K l w1) : V1 r n ds P ops Q i l w K := by
  unfold delOp at h
  split at h
  · rename_i _ ags ts ty pos aft gd ho
    split at h
    · rename_i kt' et m' k' hu hx hy
      simp only [Option.some.injEq, Prod.mk.injEq] at h
      obtain ⟨rfl, rfl, rfl⟩ := h
      obtain ⟨t, ht, hu'⟩ := Option.bind_eq_some_iff.1 hu
      obtain ⟨⟨es, ck, hes, heq⟩, hnd⟩ := hm
      have hf := hk.find u k es.toList L w heq
      cases hq : posM L k 0 with
      | none =>
        rw [hq] at hf
        obtain ⟨s1, s2, s3⟩ := set_step (o' := .map es ck) hes
        refine V1_value0 (v := .tuple #[]) ho rfl ?_ (next _ ⟨⟨⟨_, _, s3, ?_⟩, hnd.del k⟩, s2, s1⟩)
        · simp only [execOp, resolve, invoke, builtin, Builtin.delete_, Sem.run_bind, Sem.run_pure, Result.andThen_ok, hx, hy, ht, run_underlying' hu', run_getObj' hes, hk.check, hf, Option.map_none, run_setObj' _ hes]
        · rw [posM_none_del hq]; exact heq
      | some q =>
        obtain ⟨j, y⟩ := q
        rw [hq] at hf
        obtain ⟨q, h1, h2, _, h4⟩ := posM_some hq
        have hj : j = q := by omega
        subst hj
        obtain ⟨s1, s2, s3⟩ := set_step (o' := .map (es.eraseIdxIfInBounds j) ck) hes
        refine V1_value0 (v := .tuple #[]) ho rfl ?_ (next _ ⟨⟨⟨_, _, s3, ?_⟩, hnd.del k⟩, s2, s1⟩)
        · simp only [execOp, resolve, invoke, builtin, Builtin.delete_, Sem.run_bind, Sem.run_pure, Result.andThen_ok, hx, hy, ht, run_underlying' hu', run_getObj' hes, hk.check, hf, Option.map_some, run_setObj' _ hes]
        · rw [h4, Array.toList_eraseIdxIfInBounds, map_eraseIdx', heq, map_eraseIdx']
    · cases h
  · cases h
theorem VL_del {m : Nat} {kt : TypeId} {k : κ} (h : delOp P ops l i = some (m, kt, ek k)) (hi : Nat.blt i ops.size = true) (hk : KeyT P kt ek) (hm : MapL w m ek u L) (next : ∀ w1, WrM w w1 m ek u (delM L k) → VL r n ds P ops Q (i + 1) l w1) : VL r n ds P ops Q i l w := VL_of_V1 hi (V1_del h hk hm next)

/-! ### 9. In regions that are walked in one order -/
variable {tbl : List (List Nat)} {mm : Nat} {R : World → World → Prop} {ch : List Nat}
end
end Go.Vc
end

section
/- The calculus: quotients by a variable, calls of a method of an interface's value, calls that leave the world as it is. -/
set_option linter.unusedVariables false
set_option linter.unusedSimpArgs false
namespace Go.Vc
open Go.RowKit
section
variable {r : Option Nat} {n : Nat} {ds : List Deferred} {P : Program} {ops : Array Oper} {Q : Exit → Act → World → Prop} {l : List (Nat × Value)} {w : World} {i : Nat} {K : List (Nat × Value) → World → Prop}
def quoOp (n : Nat) (ops : Array Oper) (l : List (Nat × Value)) (i : Nat) : Option (Nat × IntKind × Int × Int) :=
  match theOp ops l i with
  | some { dst := some d, op := .binOp .quo _ x y _, .. } => match evL l x, evL l y with
    | .int k a, .int k' b => if k = k' then bif Nat.blt d n then some (d, k, a, b) else none else none
    | _, _ => none
  | _ => none
theorem V1_quo {d : Nat} {k : IntKind} {x y : Int} (h : quoOp n ops l i = some (d, k, x, y)) (hy : y ≠ 0) (next : K ((d, .int k (k.wrap (x.tdiv y))) :: l) w) : V1 r n ds P ops Q i l w K := by
  unfold quoOp at h
  split at h
  · rename_i _ d' t a b u ty pos aft gd ho
    split at h
    · rename_i k' xa yk yb hx hyv
      split at h
      · rename_i hk
        subst hk
        cases hb : Nat.blt d' n with
        | false => rw [hb] at h; cases h
        | true =>
          rw [hb] at h
          simp only [cond_true, Option.some.injEq, Prod.mk.injEq] at h
          obtain ⟨rfl, rfl, rfl, rfl⟩ := h
          refine V1_value ho rfl hb ?_ next
          simp [execOp, eqGuard, binOp, Op.intDiv, hx, hyv, Sem.run_bind, hy]
      · cases h
    · cases h
  · cases h
theorem VL_quo {d : Nat} {k : IntKind} {x y : Int} (h : quoOp n ops l i = some (d, k, x, y)) (hi : Nat.blt i ops.size = true) (hy : y ≠ 0) (next : VL r n ds P ops Q (i + 1) ((d, .int k (k.wrap (x.tdiv y))) :: l) w) : VL r n ds P ops Q i l w :=
  VL_of_V1 hi (V1_quo h hy next)
def invOp (P : Program) (n : Nat) (ops : Array Oper) (l : List (Nat × Value)) (i : Nat) : Option (Nat × FuncId × Array Value) :=
  match theOp ops l i with
  | some { dst := some d, op := .call { callee := .invoke rv name, args := ags, .. }, .. } => match evL l rv with
    | .iface t v => match pureVal P (method (P.types.size + Made.depth) t v name) with
      | some (f, x) => bif Nat.blt d n then some (d, f, #[x] ++ ags.map (evL l)) else none
      | none => none
    | _ => none
  | _ => none
theorem V1_invoke {d f : Nat} {args : Array Value} {S : Value → World → Prop} (h : invOp P n ops l i = some (d, f, args))
    (hc : ∀ (args : Array Value) (w : World), (callFunc f args).run P w = .ok (.enter f args) w) (hcall : CV P f args w S) (next : ∀ v w', S v w' → K ((d, v) :: l) w') :
    V1 r n ds P ops Q i l w K := by
  unfold invOp at h
  split at h
  · rename_i _ d' rv name ags ts ty pos aft gd ho
    split at h
    · rename_i t v hrv
      split at h
      · rename_i f' x hm
        cases hb : Nat.blt d' n with
        | false => rw [hb] at h; cases h
        | true =>
          rw [hb] at h
          simp only [cond_true, Option.some.injEq, Prod.mk.injEq] at h
          obtain ⟨rfl, rfl, hargs⟩ := h
          obtain ⟨h1, h2, h3⟩ := theOp_spec ho
          refine V1_run h1 h2 h3 fun a ha => ?_
          have hrun : (execOp (evL l) { dst := some d', op := .call { callee := .invoke rv name, args := ags, argTypes := ts }, type := ty, pos := pos, after := aft, guard := gd }).run P w = .ok (.enter f' args) w := by
            have hme := pureVal_run hm w
            have he : (#[Value.iface t v] ++ Array.map (evL l) ags).extract 1 (#[Value.iface t v] ++ Array.map (evL l) ags).size = Array.map (evL l) ags := by
              apply Array.toList_inj.1
              simp only [Array.toList_extract, Array.toList_append, List.cons_append, List.nil_append, Array.size_append, Array.toList_map, Array.size_map]
              simp [List.extract_eq_take_drop, List.take_of_length_le]
            simp only [execOp, resolve, hrv, Sem.run_bind, Sem.run_pure, Result.andThen_ok, invoke]
            have h0 : (#[Value.iface t v] ++ Array.map (evL l) ags)[0]? = some (Value.iface t v) := by rw [Array.getElem?_append_left (by simp)]; rfl
            simp only [h0, he, callMethod, Sem.run_bind]
            have hpr : Sem.run P program w = .ok P w := rfl
            simp only [hpr, Result.andThen_ok, hme]
            rw [hc, hargs]
          rw [hrun]
          refine ⟨(fun hd => by cases hd), callsIn_Fx ?_⟩
          refine Calls.mono hcall ?_
          rintro e w' ⟨v', rfl, hS⟩
          exact ⟨_, ha.put _ (blt_spec hb) _, next v' w' hS⟩
      · cases h
    · cases h
  · cases h
theorem VL_invoke {d f : Nat} {args : Array Value} {S : Value → World → Prop} (h : invOp P n ops l i = some (d, f, args)) (hi : Nat.blt i ops.size = true)
    (hc : ∀ (args : Array Value) (w : World), (callFunc f args).run P w = .ok (.enter f args) w) (hcall : CV P f args w S) (next : ∀ v w', S v w' → VL r n ds P ops Q (i + 1) ((d, v) :: l) w') :
    VL r n ds P ops Q i l w := VL_of_V1 hi (V1_invoke h hc hcall next)
end
/-- A call that leaves the world as it is. -/
def CE (P : Program) (f : FuncId) (args : Array Value) (v : Value) : Prop := ∀ w, CV P f args w fun x w1 => x = v ∧ w1 = w
theorem CE.no {P : Program} {f : FuncId} {args : Array Value} {v : Value} (h : CE P f args v) (w : World) : CV P f args w fun x w1 => x = v ∧ Step No w w1 := (h w).mono fun x w1 hx => ⟨hx.1, hx.2 ▸ Step.refl _ _⟩
theorem CE.val {P : Program} {f : FuncId} {args : Array Value} {v v' : Value} (h : CE P f args v) (hv : v = v') : CE P f args v' := hv ▸ h
end Go.Vc
end

section
/- Layer 20, plain: contracts, what they cost, buckets, policers' rules. -/
set_option linter.unusedVariables false
set_option linter.unusedSimpArgs false
namespace Go.Proofs.YthchmlidobgkoaaGreat
open Go.Vc Go.RowKit

/-! ### Contracts -/
structure Con where
  kind : Int
  peak : Int
  early : Int
  whole : Int
  burst : Int
  least : Int
def Con.cells (c : Con) : List Value := [.int .i64 c.kind, .int .i64 c.peak, .int .i64 c.early, .int .i64 c.whole, .int .i64 c.burst, .int .i64 c.least]
def spanB (n least : Int) : Bool := decide (n ≥ least) && decide (n ≤ 1099511627776)
def fineC (c : Con) : Bool := (spanB c.peak 1 && spanB c.early 0) &&
  (if c.kind = 2 ∨ c.kind = 3 ∨ c.kind = 4 then spanB c.whole c.peak && spanB c.burst 0 && (c.least == 0)
   else if c.kind = 5 then (c.whole == 0) && (c.burst == 0) && ((c.least == 0) || spanB c.least c.peak)
   else (c.whole == 0) && (c.burst == 0) && (c.least == 0))
def rightC (c : Con) : Int := if 1 ≤ c.kind ∧ c.kind ≤ 7 then (if fineC c = true then 0 else 11) else 12
def perC (s : Int) : Int := if s < 1 then 0 else 1 + 1048575 / s
def upC (n b : Int) : Int := (n + b - 1) / b
def needC (c : Con) : Int := if rightC c = 0 then
    (if c.kind = 1 then perC c.peak else if c.kind = 5 then perC c.least
     else if c.kind = 2 ∨ c.kind = 3 ∨ c.kind = 4 then upC (perC c.whole * 4096 + perC c.peak * c.burst) (c.burst + 4096) else 0) else 0
theorem perC_le (s : Int) : 0 ≤ perC s ∧ perC s ≤ 1048576 := by
  unfold perC
  split
  · omega
  · rename_i h
    have h1 : 0 ≤ (1048575 : Int) / s := Int.ediv_nonneg (by decide) (by omega)
    have h2 : (1048575 : Int) / s ≤ 1048575 := Int.ediv_le_self _ (by decide)
    omega
theorem spanB_iff {n a : Int} : spanB n a = true ↔ a ≤ n ∧ n ≤ 1099511627776 := by
  unfold spanB; rw [Bool.and_eq_true, decide_eq_true_eq, decide_eq_true_eq]
theorem mul_le_of {a b A B : Int} (h0 : 0 ≤ a) (h1 : a ≤ A) (h2 : 0 ≤ b) (h3 : b ≤ B) : 0 ≤ a * b ∧ a * b ≤ A * B :=
  ⟨Int.mul_nonneg h0 h2, Int.mul_le_mul h1 h3 h2 (by omega)⟩
theorem vbr_of {c : Con} (h : rightC c = 0) (hk : c.kind = 2 ∨ c.kind = 3 ∨ c.kind = 4) : (1 ≤ c.peak ∧ c.peak ≤ 1099511627776) ∧ (c.peak ≤ c.whole ∧ c.whole ≤ 1099511627776) ∧ (0 ≤ c.burst ∧ c.burst ≤ 1099511627776) ∧ (0 ≤ c.early ∧ c.early ≤ 1099511627776) := by
  unfold rightC at h
  split at h
  · split at h
    · rename_i h2
      unfold fineC at h2
      rw [if_pos hk] at h2
      simp only [Bool.and_eq_true, spanB_iff] at h2
      obtain ⟨⟨h3, h4⟩, ⟨h5, h6⟩, h7⟩ := h2
      exact ⟨h3, h5, h6, h4⟩
    · cases h
  · cases h
theorem right_pe {c : Con} (h : rightC c = 0) : (1 ≤ c.peak ∧ c.peak ≤ 1099511627776) ∧ (0 ≤ c.early ∧ c.early ≤ 1099511627776) ∧ 1 ≤ c.kind ∧ c.kind ≤ 7 := by
  unfold rightC at h
  split at h
  · rename_i hk
    split at h
    · rename_i h2
      unfold fineC at h2
      rw [Bool.and_eq_true, Bool.and_eq_true, spanB_iff, spanB_iff] at h2
      exact ⟨h2.1.1, h2.1.2, hk⟩
    · cases h
  · cases h
/-- What stands in a contract's quotient is small. -/
theorem vbr_num {c : Con} (h : rightC c = 0) (hk : c.kind = 2 ∨ c.kind = 3 ∨ c.kind = 4) :
    (0 ≤ perC c.whole * 4096 ∧ perC c.whole * 4096 ≤ 4294967296) ∧ (0 ≤ perC c.peak * c.burst ∧ perC c.peak * c.burst ≤ 1152921504606846976) ∧ 0 ≤ c.burst ∧ c.burst ≤ 1099511627776 := by
  obtain ⟨h1, h2, h3, h4⟩ := vbr_of h hk
  have a1 := perC_le c.whole
  have a2 := perC_le c.peak
  exact ⟨by omega, mul_le_of a2.1 a2.2 h3.1 h3.2, h3⟩
theorem up_le {n b : Int} (hn : 0 ≤ n) (hb : 1 ≤ b) : 0 ≤ upC n b ∧ upC n b ≤ n + b := by
  unfold upC
  exact ⟨Int.ediv_nonneg (by omega) (by omega), by have := Int.ediv_le_self b (a := n + b - 1) (by omega); omega⟩
theorem needC_le (c : Con) : 0 ≤ needC c ∧ needC c ≤ 1152930000000000000 := by
  unfold needC
  split
  · rename_i hr
    split
    · have := perC_le c.peak; omega
    · split
      · have := perC_le c.least; omega
      · split
        · rename_i hk
          obtain ⟨h1, h2, h3⟩ := vbr_num hr hk
          have := up_le (n := perC c.whole * 4096 + perC c.peak * c.burst) (b := c.burst + 4096) (by omega) (by omega)
          omega
        · omega
  · omega

theorem rightE {c : Con} (h1 : 1 ≤ c.kind) (h2 : c.kind ≤ 7) : fineC c = (rightC c == 0) := by
  unfold rightC; rw [if_pos ⟨h1, h2⟩]; cases fineC c <;> rfl
theorem right_vbr {c : Con} (hk : c.kind = 2 ∨ c.kind = 3 ∨ c.kind = 4) : (((((spanB c.peak 1) && (spanB c.early 0)) && (spanB c.whole c.peak)) && (spanB c.burst 0)) && (c.least == 0)) = (rightC c == 0) := by
  rw [← rightE (by omega) (by omega)]; unfold fineC; rw [if_pos hk]; simp only [Bool.and_assoc]
theorem right_abr {c : Con} (hk : c.kind = 5) : (((((spanB c.peak 1) && (spanB c.early 0)) && (c.whole == 0)) && (c.burst == 0)) && ((c.least == 0) || (spanB c.least c.peak))) = (rightC c == 0) := by
  rw [← rightE (by omega) (by omega)]; unfold fineC; rw [if_neg (by omega), if_pos hk]; simp only [Bool.and_assoc]
theorem right_cbr {c : Con} (hk : c.kind = 1 ∨ c.kind = 6 ∨ c.kind = 7) : (((((spanB c.peak 1) && (spanB c.early 0)) && (c.whole == 0)) && (c.burst == 0)) && (c.least == 0)) = (rightC c == 0) := by
  rw [← rightE (by omega) (by omega)]; unfold fineC; rw [if_neg (by omega), if_neg (by omega)]; simp only [Bool.and_assoc]
theorem right11 {c : Con} (h1 : 1 ≤ c.kind) (h2 : c.kind ≤ 7) (h : ¬ rightC c = 0) : 11 = rightC c := by
  unfold rightC at h ⊢; rw [if_pos ⟨h1, h2⟩] at h ⊢; split
  · rename_i h3; rw [if_pos h3] at h; exact absurd rfl h
  · rfl
theorem right12 {c : Con} (h : ¬ (1 ≤ c.kind ∧ c.kind ≤ 7)) : 12 = rightC c := by unfold rightC; rw [if_neg h]
def alwaysC (c : Con) : Bool := decide (c.kind = 7) && (rightC c == 0)
theorem always_no {c : Con} (h : ¬ c.kind = 7) : false = alwaysC c := by unfold alwaysC; rw [decide_eq_false h]; rfl
theorem always_yes {c : Con} (h : c.kind = 7) : (rightC c == 0) = alwaysC c := by unfold alwaysC; rw [decide_eq_true h]; rfl
theorem need_no {c : Con} (h : ¬ rightC c = 0) : 0 = needC c := by unfold needC; rw [if_neg h]
theorem need_cbr {c : Con} (h : rightC c = 0) (hk : c.kind = 1) : perC c.peak = needC c := by unfold needC; rw [if_pos h, if_pos hk]
theorem need_abr {c : Con} (h : rightC c = 0) (hk : c.kind = 5) : perC c.least = needC c := by unfold needC; rw [if_pos h, if_neg (by omega), if_pos hk]
theorem need_vbr {c : Con} (h : rightC c = 0) (hk : c.kind = 2 ∨ c.kind = 3 ∨ c.kind = 4) : upC (perC c.whole * 4096 + perC c.peak * c.burst) (c.burst + 4096) = needC c := by unfold needC; rw [if_pos h, if_neg (by omega), if_neg (by omega), if_pos hk]
theorem need_ubr {c : Con} (h : rightC c = 0) (h1 : ¬ c.kind = 1) (h2 : ¬ c.kind = 2) (h3 : ¬ c.kind = 3) (h4 : ¬ c.kind = 4) (h5 : ¬ c.kind = 5) : 0 = needC c := by unfold needC; rw [if_pos h, if_neg (by omega), if_neg (by omega), if_neg (by omega)]

/-! ### Buckets -/
structure Bk where
  step : Int
  early : Int
  next : Int
  any : Bool
def Bk.cells (b : Bk) : List Value := [.int .i64 b.step, .int .i64 b.early, .int .i64 b.next, .bool b.any]
def clT (t : Int) : Int := imax 0 (imin t 1152921504606846976)
theorem clT_le (t : Int) : 0 ≤ clT t ∧ clT t ≤ 1152921504606846976 := by unfold clT imax imin; split <;> split <;> omega
def bkNew (s e : Int) : Bk := ⟨imax 1 (imin s 1152921504606846976), imax 0 (imin e 1152921504606846976), 0, false⟩
structure BkOk (b : Bk) : Prop where
  step : 1 ≤ b.step ∧ b.step ≤ 1152921504606846976
  early : 0 ≤ b.early ∧ b.early ≤ 1152921504606846976
  next : 0 ≤ b.next ∧ b.next ≤ 3458764513820540928
theorem BkOk.new (s e : Int) : BkOk (bkNew s e) := by
  constructor <;> (unfold bkNew; simp only; (try unfold imax imin); first | omega | (split <;> split <;> omega))
def fitsB (b : Bk) (t : Int) : Bool := !b.any || decide (clT t ≥ b.next - b.early)
theorem fits_no {b : Bk} {t : Int} (h : b.any = false) : true = fitsB b t := by unfold fitsB; rw [h]; rfl
def takeB (b : Bk) (t : Int) : Bk := if fitsB b t = true then ⟨b.step, b.early, imax b.next (clT t) + b.step, true⟩ else b
theorem fits_yes {b : Bk} {t : Int} (hb : BkOk b) (h : b.any = true) : decide (imax 0 (imin t 1152921504606846976) ≥ IntKind.wrap .i64 (b.next - b.early)) = fitsB b t := by
  have h1 := hb.early
  have h2 := hb.next
  unfold fitsB clT; rw [h, wrap_i64 (b.next - b.early) (by omega) (by omega)]; rfl
theorem fits_next {b : Bk} {t : Int} (h : BkOk b) (hf : fitsB b t = true) (ha : b.any = true) : b.next ≤ clT t + b.early := by
  unfold fitsB at hf
  rw [ha] at hf
  simp only [Bool.not_true, Bool.false_or, decide_eq_true_eq] at hf
  omega
/-- Untaken, it has no next time. -/
structure BkI (b : Bk) : Prop extends BkOk b where
  zero : b.any = false → b.next = 0
theorem BkI.new (s e : Int) : BkI (bkNew s e) := { BkOk.new s e with zero := fun _ => rfl }
theorem BkI.max_le {b : Bk} {t : Int} (h : BkI b) (hf : fitsB b t = true) : 0 ≤ imax b.next (clT t) ∧ imax b.next (clT t) ≤ 2305843009213693952 := by
  have h1 := clT_le t
  have h2 := h.early
  have h3 := h.next
  cases ha : b.any with
  | false =>
    have := h.zero ha
    unfold imax; split <;> omega
  | true =>
    have := fits_next h.toBkOk hf ha
    unfold imax; split <;> omega
theorem BkI.take {b : Bk} (h : BkI b) (t : Int) : BkI (takeB b t) := by
  unfold takeB
  split
  · rename_i hf
    have h1 := h.max_le hf
    have h2 := h.step
    exact { step := h2, early := h.early, next := ⟨by simp only; omega, by simp only; omega⟩, zero := fun h => by cases h }
  · exact h

/-! ### Rules -/
structure Rl where
  step : Int
  early : Int
  zero : Bool
  tag : Bool
  b : Bk
def rlNew (s e : Int) (z t : Bool) : Rl := ⟨s, e, z, t, bkNew s e⟩
def rulesC (c : Con) : List Rl := if rightC c = 0 then
    (if c.kind = 2 then [rlNew c.peak c.early false false, rlNew c.whole (c.burst + c.early) false false]
     else if c.kind = 3 then [rlNew c.peak c.early false false, rlNew c.whole (c.burst + c.early) true false]
     else if c.kind = 4 then [rlNew c.peak c.early false false, rlNew c.whole (c.burst + c.early) true true]
     else [rlNew c.peak c.early false false]) else []
def askB (clp : Int) (r : Rl) : Bool := !r.zero || (clp == 0)
def vS (t : Int) (v : Int) (r : Rl) : Int := if v = 3 then 3 else if fitsB r.b t = true then v else if r.tag = true then 2 else 3
def verdR (t clp : Int) (l : List Rl) : Int := (l.filter (askB clp)).foldl (vS t) 1
def takeR (t : Int) (r : Rl) : Rl := { r with b := takeB r.b t }
/-- The verdict, and the rules behind it. -/
def asV (v clp : Int) : Int := if v = 2 then 1 else clp
def rulesT (t clp : Int) (l : List Rl) : List Rl := if verdR t clp l = 3 then l else l.map fun r => if askB (asV (verdR t clp l) clp) r = true then takeR t r else r
def polV (always : Bool) (t clp : Int) (l : List Rl) : Int := if verdR t clp l = 1 ∧ always = true ∧ clp = 0 then 2 else verdR t clp l
theorem vS_cases (t v : Int) (r : Rl) (h : v = 1 ∨ v = 2 ∨ v = 3) : vS t v r = 1 ∨ vS t v r = 2 ∨ vS t v r = 3 := by
  unfold vS; split
  · simp
  · split
    · exact h
    · split <;> simp
theorem fold_cases (t : Int) : ∀ (l : List Rl) (v : Int), v = 1 ∨ v = 2 ∨ v = 3 → l.foldl (vS t) v = 1 ∨ l.foldl (vS t) v = 2 ∨ l.foldl (vS t) v = 3
  | [], v, h => h
  | r :: l, v, h => fold_cases t l _ (vS_cases t v r h)
theorem verdR_cases (t clp : Int) (l : List Rl) : verdR t clp l = 1 ∨ verdR t clp l = 2 ∨ verdR t clp l = 3 := fold_cases t _ 1 (.inl rfl)
theorem fold_three (t : Int) : ∀ (l : List Rl), l.foldl (vS t) 3 = 3
  | [] => rfl
  | r :: l => by rw [List.foldl_cons, show vS t 3 r = 3 from by unfold vS; simp]; exact fold_three t l
def RlsI (l : List Rl) : Prop := l.length ≤ 2 ∧ ∀ r ∈ l, BkI r.b
theorem RlsI.rules (c : Con) : RlsI (rulesC c) := by
  have hn : ∀ s e z t, BkI (rlNew s e z t).b := fun s e z t => BkI.new s e
  unfold rulesC
  (repeat' split) <;> refine ⟨by simp, fun r hr => ?_⟩ <;> simp only [List.mem_cons, List.not_mem_nil, or_false] at hr
  all_goals first | (rcases hr with rfl | rfl <;> exact hn _ _ _ _) | (subst hr; exact hn _ _ _ _)
theorem RlsI.take {l : List Rl} (h : RlsI l) (t clp : Int) : RlsI (rulesT t clp l) := by
  unfold rulesT
  split
  · exact h
  · refine ⟨by simpa using h.1, fun r hr => ?_⟩
    obtain ⟨x, hx, rfl⟩ := List.mem_map.1 hr
    have := h.2 x hx
    split
    · exact this.take t
    · exact this
end Go.Proofs.YthchmlidobgkoaaGreat
end

section
/- Layer 20, plain: a node's connections as a list; what is done with it. -/
set_option linter.unusedVariables false
set_option linter.unusedSimpArgs false
namespace Go.Proofs.YthchmlidobgkoaaGreat
open Go.Vc Go.RowKit

structure Cx where
  p : Int
  v : Int
  c : Int
  k : Con
  rs : List Rl
def Cx.e0 (x : Cx) : Ent := ⟨x.p, x.v, x.c, 0⟩
def keyX (p v c : Int) (x : Cx) : Bool := decide (x.p = p ∧ x.v = v ∧ x.c = c)
theorem keyX_iff {p v c : Int} {x : Cx} : keyX p v c x = true ↔ x.p = p ∧ x.v = v ∧ x.c = c := by unfold keyX; rw [decide_eq_true_eq]
def findC (L : List Cx) (p v c : Int) : Option Cx := L.find? (keyX p v c)
def delC (L : List Cx) (p v c : Int) : List Cx := L.filter fun x => !keyX p v c x
def aheadC (L : List Cx) (p v c : Int) : Nat := aheadE (L.map Cx.e0) p v c
def insC (L : List Cx) (x : Cx) : List Cx := L.take (aheadC L x.p x.v x.c) ++ x :: L.drop (aheadC L x.p x.v x.c)
def newK (k : Con) (x : Cx) : Cx := { x with k := k, rs := rulesC k }
def newR (t clp : Int) (x : Cx) : Cx := { x with rs := rulesT t clp x.rs }
def setC (L : List Cx) (p v c : Int) (f : Cx → Cx) : List Cx := L.map fun x => if keyX p v c x = true then f x else x
def usdL : List Cx → Int → Int
  | [], _ => 0
  | x :: L, i => (if x.p = i then needC x.k else 0) + usdL L i
theorem usdL_append (L M : List Cx) (i : Int) : usdL (L ++ M) i = usdL L i + usdL M i := by
  induction L with
  | nil => simp [usdL]
  | cons x L ih => simp only [List.cons_append, usdL, ih]; omega
theorem usdL_nonneg (L : List Cx) (i : Int) : 0 ≤ usdL L i := by
  induction L with
  | nil => simp [usdL]
  | cons x L ih =>
    simp only [usdL]
    have := (needC_le x.k).1
    split <;> omega
theorem usdL_ins (L : List Cx) (x : Cx) (i : Int) : usdL (insC L x) i = usdL L i + (if x.p = i then needC x.k else 0) := by
  unfold insC
  rw [usdL_append, usdL]
  have := usdL_append (L.take (aheadC L x.p x.v x.c)) (L.drop (aheadC L x.p x.v x.c)) i
  rw [List.take_append_drop] at this
  omega
theorem usdL_mem {L : List Cx} {x : Cx} (h : x ∈ L) : needC x.k ≤ usdL L x.p := by
  induction L with
  | nil => cases h
  | cons y L ih =>
    simp only [usdL]
    rcases List.mem_cons.1 h with rfl | h
    · rw [if_pos rfl]; have := usdL_nonneg L x.p; omega
    · have := ih h
      have := (needC_le y.k).1
      split <;> omega
/-- Each key once. -/
def OneK (L : List Cx) : Prop := L.Pairwise fun x y => ¬ (x.p = y.p ∧ x.v = y.v ∧ x.c = y.c)
theorem OneK.inj {L : List Cx} (h : OneK L) {x y : Cx} (hx : x ∈ L) (hy : y ∈ L) (he : x.p = y.p ∧ x.v = y.v ∧ x.c = y.c) : x = y := by
  induction L with
  | nil => cases hx
  | cons z L ih =>
    obtain ⟨h1, h2⟩ := List.pairwise_cons.1 h
    rcases List.mem_cons.1 hx with ex | mx
    · rcases List.mem_cons.1 hy with ey | my
      · rw [ex, ey]
      · subst ex; exact absurd he (h1 y my)
    · rcases List.mem_cons.1 hy with ey | my
      · subst ey; exact absurd ⟨he.1.symm, he.2.1.symm, he.2.2.symm⟩ (h1 x mx)
      · exact ih h2 mx my
theorem findC_some {L : List Cx} {p v c : Int} {x : Cx} (h : findC L p v c = some x) : x ∈ L ∧ x.p = p ∧ x.v = v ∧ x.c = c := by
  unfold findC at h
  exact ⟨List.mem_of_find?_eq_some h, keyX_iff.1 (List.find?_some h)⟩
theorem findC_none {L : List Cx} {p v c : Int} : findC L p v c = none ↔ ∀ x ∈ L, ¬ (x.p = p ∧ x.v = v ∧ x.c = c) := by
  unfold findC
  rw [List.find?_eq_none]
  exact ⟨fun h x hx he => h x hx (keyX_iff.2 he), fun h x hx he => h x hx (keyX_iff.1 he)⟩
theorem findC_mem {L : List Cx} (h : OneK L) {x : Cx} (hx : x ∈ L) : findC L x.p x.v x.c = some x := by
  cases e : findC L x.p x.v x.c with
  | none => exact absurd ⟨rfl, rfl, rfl⟩ (findC_none.1 e x hx)
  | some y =>
    obtain ⟨h1, h2⟩ := findC_some e
    rw [h.inj h1 hx h2]
theorem usdL_del {L : List Cx} (h : OneK L) (p v c i : Int) : usdL (delC L p v c) i = usdL L i - (match findC L p v c with | some x => if x.p = i then needC x.k else 0 | none => 0) := by
  induction L with
  | nil => simp [delC, usdL, findC]
  | cons x L ih =>
    obtain ⟨h1, h2⟩ := List.pairwise_cons.1 h
    have ih := ih h2
    unfold delC findC at ih ⊢
    by_cases hk : keyX p v c x = true
    · rw [List.filter_cons_of_neg (by simp [hk]), List.find?_cons_of_pos hk]
      have hn : L.find? (keyX p v c) = none := by
        rw [List.find?_eq_none]
        intro y hy he
        have a := keyX_iff.1 hk
        have b := keyX_iff.1 he
        exact h1 y hy ⟨a.1.trans b.1.symm, a.2.1.trans b.2.1.symm, a.2.2.trans b.2.2.symm⟩
      rw [hn] at ih
      rw [ih]
      simp only [usdL]
      omega
    · rw [List.filter_cons_of_pos (by simpa using hk), List.find?_cons_of_neg hk]
      simp only [usdL, ih]
      split <;> omega
theorem usdL_set {L : List Cx} (h : OneK L) (p v c i : Int) (f : Cx → Cx) (hf : ∀ x, (f x).p = x.p) : usdL (setC L p v c f) i = usdL L i + (match findC L p v c with | some x => if x.p = i then needC (f x).k - needC x.k else 0 | none => 0) := by
  induction L with
  | nil => simp [setC, usdL, findC]
  | cons x L ih =>
    obtain ⟨h1, h2⟩ := List.pairwise_cons.1 h
    have ih := ih h2
    unfold setC findC at ih ⊢
    rw [List.map_cons]
    by_cases hk : keyX p v c x = true
    · rw [if_pos hk, List.find?_cons_of_pos hk]
      have hn : L.find? (keyX p v c) = none := by
        rw [List.find?_eq_none]
        intro y hy he
        have a := keyX_iff.1 hk
        have b := keyX_iff.1 he
        exact h1 y hy ⟨a.1.trans b.1.symm, a.2.1.trans b.2.1.symm, a.2.2.trans b.2.2.symm⟩
      rw [hn] at ih
      simp only [usdL, ih, hf]
      split <;> omega
    · rw [if_neg hk, List.find?_cons_of_neg hk]
      simp only [usdL, ih]
      omega
theorem usdL_same {L : List Cx} (p v c i : Int) (f : Cx → Cx) (hf : ∀ x, (f x).p = x.p ∧ (f x).k = x.k) : usdL (setC L p v c f) i = usdL L i := by
  induction L with
  | nil => rfl
  | cons x L ih =>
    unfold setC at ih ⊢
    rw [List.map_cons]
    simp only [usdL, ih]
    split
    · rw [(hf x).1, (hf x).2]
    · rfl
theorem len_insC (L : List Cx) (x : Cx) : (insC L x).length = L.length + 1 := by
  unfold insC
  rw [List.length_append, List.length_cons]
  have := congrArg List.length (List.take_append_drop (aheadC L x.p x.v x.c) L)
  rw [List.length_append] at this
  omega
theorem mem_insC {L : List Cx} {x y : Cx} : y ∈ insC L x ↔ y = x ∨ y ∈ L := by
  unfold insC
  rw [List.mem_append, List.mem_cons]
  have h : y ∈ L ↔ y ∈ L.take (aheadC L x.p x.v x.c) ∨ y ∈ L.drop (aheadC L x.p x.v x.c) := by rw [← List.mem_append, List.take_append_drop]
  rw [h]
  exact ⟨fun h => by rcases h with h | h | h; exact .inr (.inl h); exact .inl h; exact .inr (.inr h), fun h => by rcases h with h | h | h; exact .inr (.inl h); exact .inl h; exact .inr (.inr h)⟩

/-! ### What a node answers -/
def leftN (rooms : List Int) (L : List Cx) (p : Int) : Int := if 0 ≤ p ∧ p < rooms.length then rooms.getD p.toNat 0 - usdL L p else 0
def usedN (rooms : List Int) (L : List Cx) (p : Int) : Int := if 0 ≤ p ∧ p < rooms.length then usdL L p else 0
def wrongN (rooms : List Int) (p v c : Int) (k : Con) : Int := if (0 ≤ p ∧ p < rooms.length) ∧ rightB p v c = true ∧ 32 ≤ c then (if rightC k = 0 then 0 else 73) else 3
def chkN (rooms : List Int) (L : List Cx) (p v c : Int) (k : Con) : Int :=
  if wrongN rooms p v c k = 0 then (if (findC L p v c).isSome = true then 35 else if 64 ≤ L.length then 47 else if needC k > leftN rooms L p then 37 else 0) else wrongN rooms p v c k
def takeN (rooms : List Int) (L : List Cx) (p v c : Int) (k : Con) : List Cx := if chkN rooms L p v c k = 0 then insC L ⟨p, v, c, k, rulesC k⟩ else L
def chgK (rooms : List Int) (L : List Cx) (p v c : Int) (k : Con) : Int :=
  if wrongN rooms p v c k = 0 then (match findC L p v c with | some x => if needC k > leftN rooms L p + needC x.k then 37 else 0 | none => 81) else wrongN rooms p v c k
def chgN (rooms : List Int) (L : List Cx) (p v c : Int) (k : Con) : List Cx := if chgK rooms L p v c k = 0 then setC L p v c (newK k) else L
def verV (L : List Cx) (p v c t clp : Int) : Int := match findC L p v c with | some x => polV (alwaysC x.k) t clp x.rs | none => 0
def verN (L : List Cx) (p v c t clp : Int) : List Cx := setC L p v c (newR t clp)
def conZ : Con := ⟨0, 0, 0, 0, 0, 0⟩
def conN (L : List Cx) (p v c : Int) : Con := match findC L p v c with | some x => x.k | none => conZ
theorem wrongN_zero {rooms : List Int} {p v c : Int} {k : Con} (h : wrongN rooms p v c k = 0) : (0 ≤ p ∧ p < rooms.length) ∧ rightB p v c = true ∧ 32 ≤ c ∧ rightC k = 0 := by
  unfold wrongN at h
  split at h
  · rename_i h1
    split at h
    · rename_i h2; exact ⟨h1.1, h1.2.1, h1.2.2, h2⟩
    · cases h
  · cases h
theorem chkN_zero {rooms : List Int} {L : List Cx} {p v c : Int} {k : Con} (h : chkN rooms L p v c k = 0) : wrongN rooms p v c k = 0 ∧ findC L p v c = none ∧ L.length < 64 ∧ needC k ≤ leftN rooms L p := by
  unfold chkN at h
  split at h
  · rename_i h1
    split at h
    · cases h
    · rename_i h2
      split at h
      · cases h
      · split at h
        · cases h
        · exact ⟨h1, by cases e : findC L p v c; rfl; rw [e] at h2; exact absurd rfl h2, by omega, by omega⟩
  · rename_i h1; exact absurd h h1
theorem chgK_zero {rooms : List Int} {L : List Cx} {p v c : Int} {k : Con} (h : chgK rooms L p v c k = 0) : wrongN rooms p v c k = 0 ∧ ∃ x, findC L p v c = some x ∧ needC k ≤ leftN rooms L p + needC x.k := by
  unfold chgK at h
  split at h
  · rename_i h1
    refine ⟨h1, ?_⟩
    cases e : findC L p v c with
    | none => rw [e] at h; cases h
    | some x =>
      rw [e] at h
      simp only at h
      split at h
      · cases h
      · exact ⟨x, rfl, by omega⟩
  · rename_i h1; exact absurd h h1
/-- What a node keeps true of its list. -/
structure LI (rooms : List Int) (L : List Cx) : Prop where
  srt : SrtE (L.map Cx.e0)
  len : L.length ≤ 64
  key : ∀ x ∈ L, (0 ≤ x.p ∧ x.p < rooms.length) ∧ rightB x.p x.v x.c = true ∧ 32 ≤ x.c ∧ rightC x.k = 0
  rls : ∀ x ∈ L, RlsI x.rs
  fit : ∀ (i : Nat) (r : Int), rooms[i]? = some r → usdL L i ≤ r
  rm : rooms.length ≤ 8
  rooms : ∀ r ∈ rooms, 0 ≤ r ∧ r ≤ 1152921504606846976
theorem OneK.of_srt {L : List Cx} (h : SrtE (L.map Cx.e0)) : OneK L := by
  unfold SrtE at h
  rw [List.pairwise_map] at h
  refine h.imp fun {x y} hb he => ?_
  unfold befE at hb
  rw [befK_iff] at hb
  simp only [Cx.e0] at hb
  omega
theorem LI.one {rooms : List Int} {L : List Cx} (h : LI rooms L) : OneK L := .of_srt h.srt
theorem map_insC (L : List Cx) (x : Cx) : (insC L x).map Cx.e0 = insE (L.map Cx.e0) x.e0 := by
  unfold insC insE aheadC
  simp only [List.map_append, List.map_cons, List.map_take, List.map_drop]
  rfl
theorem map_delC (L : List Cx) (p v c : Int) : (delC L p v c).map Cx.e0 = delE (L.map Cx.e0) p v c := by
  unfold delC delE
  rw [List.filter_map]
  congr 1
theorem map_setC (L : List Cx) (p v c : Int) (f : Cx → Cx) (hf : ∀ x, (f x).e0 = x.e0) : (setC L p v c f).map Cx.e0 = L.map Cx.e0 := by
  unfold setC
  rw [List.map_map]
  apply List.map_congr_left
  intro x _
  simp only [Function.comp]
  split
  · exact hf x
  · rfl
theorem leftN_at {rooms : List Int} {L : List Cx} {i : Nat} {r : Int} (h : rooms[i]? = some r) : leftN rooms L i = r - usdL L i := by
  obtain ⟨h1, h2⟩ := List.getElem?_eq_some_iff.1 h
  unfold leftN
  rw [if_pos ⟨by omega, by omega⟩]
  simp [List.getD, h]
theorem port_nat {rooms : List Int} {p : Int} (h : 0 ≤ p ∧ p < rooms.length) : ∃ (i : Nat) (r : Int), p = (i : Int) ∧ i < rooms.length ∧ rooms[i]? = some r :=
  ⟨p.toNat, _, by omega, by omega, List.getElem?_eq_getElem (by omega)⟩
theorem LI.nil {rooms : List Int} (h : rooms.length ≤ 8) (hr : ∀ r ∈ rooms, 0 ≤ r ∧ r ≤ 1152921504606846976) : LI rooms [] :=
  ⟨List.Pairwise.nil, by simp, by simp, by simp, fun i r hi => by simp only [usdL]; exact (hr r (List.mem_of_getElem? hi)).1, h, hr⟩
theorem LI.take {rooms : List Int} {L : List Cx} (h : LI rooms L) (p v c : Int) (k : Con) : LI rooms (takeN rooms L p v c k) := by
  unfold takeN
  split
  · rename_i h0
    obtain ⟨h1, h2, h3, h4⟩ := chkN_zero h0
    obtain ⟨a1, a2, a3, a4⟩ := wrongN_zero h1
    refine ⟨?_, by rw [len_insC]; omega, fun x hx => ?_, fun x hx => ?_, fun i r hi => ?_, h.rm, h.rooms⟩
    · rw [map_insC]
      refine insE_srt h.srt fun y hy => ?_
      obtain ⟨z, hz, rfl⟩ := List.mem_map.1 hy
      exact findC_none.1 h2 z hz
    · rcases mem_insC.1 hx with rfl | hx
      · exact ⟨a1, a2, a3, a4⟩
      · exact h.key x hx
    · rcases mem_insC.1 hx with rfl | hx
      · exact RlsI.rules k
      · exact h.rls x hx
    · rw [usdL_ins]
      have := h.fit i r hi
      split
      · rename_i he
        simp only at he
        subst he
        rw [leftN_at hi] at h4
        simp only
        omega
      · omega
  · exact h
theorem LI.drop {rooms : List Int} {L : List Cx} (h : LI rooms L) (p v c : Int) : LI rooms (delC L p v c) := by
  have hm : ∀ x ∈ delC L p v c, x ∈ L := fun x hx => (List.mem_filter.1 hx).1
  refine ⟨?_, Nat.le_trans (List.length_filter_le _ _) h.len, fun x hx => h.key x (hm x hx), fun x hx => h.rls x (hm x hx), fun i r hi => ?_, h.rm, h.rooms⟩
  · rw [map_delC]; exact delE_srt h.srt p v c
  · rw [usdL_del h.one]
    have := h.fit i r hi
    split
    · rename_i x _; have := (needC_le x.k).1; split <;> omega
    · omega
theorem mem_setC {L : List Cx} {p v c : Int} {f : Cx → Cx} {y : Cx} (h : y ∈ setC L p v c f) : y ∈ L ∨ ∃ x ∈ L, (x.p = p ∧ x.v = v ∧ x.c = c) ∧ y = f x := by
  obtain ⟨x, hx, rfl⟩ := List.mem_map.1 h
  split
  · rename_i hk; exact .inr ⟨x, hx, keyX_iff.1 hk, rfl⟩
  · exact .inl hx
theorem LI.change {rooms : List Int} {L : List Cx} (h : LI rooms L) (p v c : Int) (k : Con) : LI rooms (chgN rooms L p v c k) := by
  unfold chgN
  split
  · rename_i h0
    obtain ⟨h1, x0, h2, h4⟩ := chgK_zero h0
    obtain ⟨a1, a2, a3, a4⟩ := wrongN_zero h1
    obtain ⟨b1, b2, b3, b4⟩ := findC_some h2
    refine ⟨?_, by unfold setC; rw [List.length_map]; exact h.len, fun x hx => ?_, fun x hx => ?_, fun i r hi => ?_, h.rm, h.rooms⟩
    · rw [map_setC _ _ _ _ (newK k) (fun x => rfl)]; exact h.srt
    · rcases mem_setC hx with hx | ⟨y, hy, _, rfl⟩
      · exact h.key x hx
      · have := h.key y hy; exact ⟨this.1, this.2.1, this.2.2.1, a4⟩
    · rcases mem_setC hx with hx | ⟨y, hy, _, rfl⟩
      · exact h.rls x hx
      · exact RlsI.rules k
    · rw [usdL_set h.one _ _ _ _ (newK k) (fun x => rfl), h2]
      have := h.fit i r hi
      simp only [newK]
      split
      · rename_i he
        rw [b2] at he
        subst he
        rw [leftN_at hi] at h4
        omega
      · omega
  · exact h
theorem LI.verdict {rooms : List Int} {L : List Cx} (h : LI rooms L) (p v c t clp : Int) : LI rooms (verN L p v c t clp) := by
  unfold verN
  refine ⟨?_, by unfold setC; rw [List.length_map]; exact h.len, fun x hx => ?_, fun x hx => ?_, fun i r hi => ?_, h.rm, h.rooms⟩
  · rw [map_setC _ _ _ _ (newR t clp) (fun x => rfl)]; exact h.srt
  · rcases mem_setC hx with hx | ⟨y, hy, _, rfl⟩
    · exact h.key x hx
    · exact h.key y hy
  · rcases mem_setC hx with hx | ⟨y, hy, _, rfl⟩
    · exact h.rls x hx
    · exact (h.rls y hy).take t clp
  · rw [usdL_same _ _ _ _ (newR t clp) (fun x => ⟨rfl, rfl⟩)]; exact h.fit i r hi
end Go.Proofs.YthchmlidobgkoaaGreat
end

section
/- Layer 20: contracts, what they cost, buckets. -/
set_option linter.unusedVariables false
set_option linter.unusedSimpArgs false
set_option maxRecDepth 100000
set_option maxHeartbeats 4000000
namespace Go.Proofs.YthchmlidobgkoaaGreat
open Go.Vc Go.RowKit
theorem TAd1aa {P : Prop} (h : P := by first | exact Eq.symm (by assumption) | exact right11 (by omega) (by omega) (by assumption) | exact right12 (by omega)) : P := h
theorem TAd1ab {P : Prop} (h : P := by first | exact need_no (by assumption) | exact need_cbr (by assumption) (by assumption) | exact need_abr (by assumption) (by assumption) | exact need_vbr (by assumption) (by omega) | (exfalso; omega) | exact need_ubr (by assumption) (by assumption) (by assumption) (by assumption) (by assumption) (by assumption)) : P := h
theorem TAd1ac {P : Prop} (h : P := by intro i hi; first | exact hi | exact ⟨_, by assumption, hi⟩ | (have hi9 : i = bk := hi; (first | show _ ∨ _ | show _ = _); omega)) : P := h
theorem TAd1ad {P : Prop} (h : P := by first | exact fits_no (by first | assumption | simp_all) | exact fits_yes hb.toBkOk (by first | assumption | simp_all)) : P := h
theorem TAd1ae {P : Prop} (h : P := by first | exact always_no (by assumption) | exact always_yes (by assumption)) : P := h

theorem span_w (n a : Int) (w : World) :
  CV Tryz.prog 69 #[I6 n, I6 a] w (fun x w1 => x = Bo (spanB n a) ∧ w1 = w) := by
 refine VCe Tryz.func69 (Vrp (Vs (Vr (Vp 4 (Vand 8 11 7 [] (decide (n ≥ a)) (decide (n ≤ 1099511627776)) (fun hg1 J1 => ?_) ?_)))))
 ·exact Vp 7 (Vk [11] J1)
 refine Ve (Vn (VC_ret (Vr1 (Bo ((decide (n ≥ a)) && (decide (n ≤ 1099511627776)))) ?_)))
 exact ⟨rfl, rfl⟩

theorem span_ce (n a : Int) : CE Tryz.prog 69 #[.int .i64 n, .int .i64 a] (.bool (spanB n a)) := fun w => span_w n a w
theorem within_w (q a b : Int) (w : World) :
  CV Tryz.prog 80 #[I6 q, I6 a, I6 b] w (fun x w1 => x = I6 (imax a (imin q b)) ∧ w1 = w) := by
 refine VCe Tryz.func80 (Vrp (Vrp (VC_ret (Vr1 (I6 (imax a (imin q b))) ?_))))
 exact ⟨rfl, rfl⟩

theorem within_ce (q a b : Int) : CE Tryz.prog 80 #[.int .i64 q, .int .i64 a, .int .i64 b] (.int .i64 (imax a (imin q b))) := fun w => within_w q a b w
theorem per_eq {s : Int} (h : ¬ s < 1) : IntKind.wrap .i64 (1 + IntKind.wrap .i64 ((1048575 : Int).tdiv s)) = perC s := by
  have h1 : 0 ≤ (1048575 : Int) / s := Int.ediv_nonneg (by decide) (by omega)
  have h2 : (1048575 : Int) / s ≤ 1048575 := Int.ediv_le_self _ (by decide)
  unfold perC
  rw [if_neg h, show (1048575 : Int).tdiv s = 1048575 / s from Int.tdiv_eq_ediv_of_nonneg (by decide), wrap_i64 (1048575 / s) (by omega) (by omega), wrap_i64 _ (by omega) (by omega)]
theorem up_eq {n b : Int} (h0 : 0 ≤ n) (h1 : n ≤ 2305843009213693952) (h2 : 1 ≤ b) (h3 : b ≤ 2305843009213693952) : IntKind.wrap .i64 ((IntKind.wrap .i64 (IntKind.wrap .i64 (n + b) - 1)).tdiv b) = upC n b := by
  unfold upC
  have h5 := Int.ediv_le_self b (a := n + b - 1) (by omega)
  have h6 : 0 ≤ (n + b - 1) / b := Int.ediv_nonneg (by omega) (by omega)
  rw [wrap_i64 (n + b) (by omega) (by omega), wrap_i64 (n + b - 1) (by omega) (by omega), Int.tdiv_eq_ediv_of_nonneg (by omega), wrap_i64 _ (by omega) (by omega)]
theorem per_w (s : Int) (w : World) :
  CV Tryz.prog 54 #[I6 s] w (fun x w1 => x = I6 (perC s) ∧ w1 = w) := by
 refine VCe Tryz.func54 (Vrp (Vs (Vrp (Vid (s < 1) (fun h1 => ?_) (fun h1 => ?_)))))
 ·refine Vrp (VC_ret (VQ_then_ret (Vr1 (I6 0) ?_)))
  exact ⟨congrArg (Value.int .i64) (by unfold perC; rw [if_pos h1]), rfl⟩
 ·refine VC_skip (Vn (Vs (Vr (VL_pure 1 [5] [(5, I6 s)] (by kernel_rfl) rfl (VL_quo (d := 6) (k := .i64) (x := 1048575) (y := s) (by kernel_rfl) (by kernel_rfl) (by omega) (Ve (Vn (VC_ret (Vr1 (I6 (IntKind.wrap .i64 (1 + (IntKind.wrap .i64 ((1048575 : Int).tdiv s))))) ?_)))))))))
  exact ⟨congrArg (Value.int .i64) ((per_eq h1)), rfl⟩

theorem per_ce (s : Int) : CE Tryz.prog 54 #[.int .i64 s] (.int .i64 (perC s)) := fun w => per_w s w
theorem up_w (n b : Int) (h0 : 0 ≤ n) (h1 : n ≤ 2305843009213693952) (h2 : 1 ≤ b) (h3 : b ≤ 2305843009213693952) (w : World) :
  CV Tryz.prog 55 #[I6 n, I6 b] w (fun x w1 => x = I6 (upC n b) ∧ w1 = w) := by
 refine VCe Tryz.func55 (Vrp (Vs (Vr (VL_pure 5 [8, 9] [(8, I6 (IntKind.wrap .i64 ((IntKind.wrap .i64 (n + b)) - 1))), (9, I6 b)] (by kernel_rfl) rfl (VL_quo (d := 10) (k := .i64) (x := (IntKind.wrap .i64 ((IntKind.wrap .i64 (n + b)) - 1))) (y := b) (by kernel_rfl) (by kernel_rfl) (by omega) (Ve (Vn (VC_ret (Vr1 (I6 (IntKind.wrap .i64 ((IntKind.wrap .i64 ((IntKind.wrap .i64 (n + b)) - 1)).tdiv b))) ?_)))))))))
 exact ⟨congrArg (Value.int .i64) (up_eq h0 h1 h2 h3), rfl⟩

theorem cright_any (c : Con) (w : World) :
  CV Tryz.prog 52 #[.agg #[I6 c.kind, I6 c.peak, I6 c.early, I6 c.whole, I6 c.burst, I6 c.least]] w (fun x w1 => x = I6 (rightC c) ∧ Step No w w1) := by
 have hS : Step No w w := Step.refl _ _
 refine VCe Tryz.func52 (Vs (Vr ?_))
 refine Vx 0 32 #[I6 c.kind, I6 c.peak, I6 c.early, I6 c.whole, I6 c.burst, I6 c.least] ?_
 intro b1 w1 hn1
 replace hS := Step.trans hS (hn1.step No)
 have ho1 := hn1.own
 refine Ve (Vn (Vs (Vr (Vl 1 ho1 ?_))))
 refine Vc 2 Tryz.call69 ((span_ce c.peak 1) w1) ?_
 rintro _ w2 ⟨rfl, hc1⟩
 subst w2
 refine Vp 4 (Vand 7 11 8 [1] (spanB c.peak 1) (spanB c.early 0) (fun hg1 J1 => ?_) ?_)
 ·refine Vl 5 ho1 ?_
  refine Vc 6 Tryz.call69 ((span_ce c.early 0) w1) ?_
  rintro _ w3 ⟨rfl, hc2⟩
  subst w3
  exact Vp 8 (Vk [11, 1] J1)
 refine Ve (Vn (Vs (Vs (Vr (Vl 1 ho1 (Ve (Vn (VC_block (Vs (Vrp (Vie c.kind 2 (fun h1 => ?_) (fun h1 => ?_))))))))))))
 ·refine VC_skip (Vn (Vie c.kind 2 (fun h2 => ?_) (fun h2 => ?_)))
  ·refine Vr (Vp 2 (Vand 19 25 8 [1] ((spanB c.peak 1) && (spanB c.early 0)) (spanB c.whole c.peak) (fun hg2 J2 => ?_) ?_))
   ·refine Vl 3 ho1 (Vl 5 ho1 ?_)
    refine Vc 6 Tryz.call69 ((span_ce c.whole c.peak) w1) ?_
    rintro _ w4 ⟨rfl, hc3⟩
    subst w4
    exact Vp 8 (Vk [25, 1] J2)
   refine Vp 9 (Vand 26 30 13 [1] (((spanB c.peak 1) && (spanB c.early 0)) && (spanB c.whole c.peak)) (spanB c.burst 0) (fun hg3 J3 => ?_) ?_)
   ·refine Vl 10 ho1 ?_
    refine Vc 11 Tryz.call69 ((span_ce c.burst 0) w1) ?_
    rintro _ w5 ⟨rfl, hc4⟩
    subst w5
    exact Vp 13 (Vk [30, 1] J3)
   refine Vp 14 (Vand 31 35 18 [] ((((spanB c.peak 1) && (spanB c.early 0)) && (spanB c.whole c.peak)) && (spanB c.burst 0)) (c.least == 0) (fun hg4 J4 => ?_) ?_)
   ·refine Vl 15 ho1 ?_
    exact Vp 18 (Vk [35] J4)
   refine Ve (VQ_block_normal (Vn (Vs (Vs ?_))))
   have hE : (((((spanB c.peak 1) && (spanB c.early 0)) && (spanB c.whole c.peak)) && (spanB c.burst 0)) && (c.least == 0)) = (rightC c == 0) := right_vbr (by omega)
   refine VqC 3 (Bo (((((spanB c.peak 1) && (spanB c.early 0)) && (spanB c.whole c.peak)) && (spanB c.burst 0)) && (c.least == 0))) (Bo ((rightC c) == 0)) (by rw [hE]) (Vr (Ve (Vn (Vif (!((rightC c) == 0)) (fun h3 => ?_) (fun h3 => ?_)))))
   ·try simp only [BB] at h3
    refine Vrp (VC_ret (VQ_then_ret (Vr1 (I6 11) ?_)))
    exact ⟨congrArg (Value.int .i64) TAd1aa, hS⟩
   ·try simp only [BB] at h3
    refine VC_skip (Vn (Vrp (VC_ret (Vr1 (I6 0) ?_))))
    exact ⟨congrArg (Value.int .i64) TAd1aa, hS⟩
  ·refine Vrp (Vie c.kind 5 (fun h4 => ?_) (fun h4 => ?_))
   ·refine Vr (Vp 2 (Vand 39 43 6 [1] ((spanB c.peak 1) && (spanB c.early 0)) (c.whole == 0) (fun hg5 J5 => ?_) ?_))
    ·refine Vl 3 ho1 ?_
     exact Vp 6 (Vk [43, 1] J5)
    refine Vp 7 (Vand 44 48 11 [1] (((spanB c.peak 1) && (spanB c.early 0)) && (c.whole == 0)) (c.burst == 0) (fun hg6 J6 => ?_) ?_)
    ·refine Vl 8 ho1 ?_
     exact Vp 11 (Vk [48, 1] J6)
    refine Vp 12 (Vand 49 60 23 [] ((((spanB c.peak 1) && (spanB c.early 0)) && (c.whole == 0)) && (c.burst == 0)) ((c.least == 0) || (spanB c.least c.peak)) (fun hg7 J7 => ?_) ?_)
    ·refine Vl 13 ho1 (Vp 16 (Vor 53 59 22 [49] (c.least == 0) (spanB c.least c.peak) (fun hg8 J8 => ?_) ?_))
     ·refine Vl 17 ho1 (Vl 19 ho1 ?_)
      refine Vc 20 Tryz.call69 ((span_ce c.least c.peak) w1) ?_
      rintro _ w6 ⟨rfl, hc5⟩
      subst w6
      exact Vp 22 (Vk [59, 49] J8)
     exact Vp 23 (Vk [60] J7)
    refine Ve (VQ_block_normal (Vn (Vs (Vs ?_))))
    have hE : (((((spanB c.peak 1) && (spanB c.early 0)) && (c.whole == 0)) && (c.burst == 0)) && ((c.least == 0) || (spanB c.least c.peak))) = (rightC c == 0) := right_abr (by omega)
    refine VqC 3 (Bo (((((spanB c.peak 1) && (spanB c.early 0)) && (c.whole == 0)) && (c.burst == 0)) && ((c.least == 0) || (spanB c.least c.peak)))) (Bo ((rightC c) == 0)) (by rw [hE]) (Vr (Ve (Vn (Vif (!((rightC c) == 0)) (fun h5 => ?_) (fun h5 => ?_)))))
    ·try simp only [BB] at h5
     refine Vrp (VC_ret (VQ_then_ret (Vr1 (I6 11) ?_)))
     exact ⟨congrArg (Value.int .i64) TAd1aa, hS⟩
    ·try simp only [BB] at h5
     refine VC_skip (Vn (Vrp (VC_ret (Vr1 (I6 0) ?_))))
     exact ⟨congrArg (Value.int .i64) TAd1aa, hS⟩
   ·refine Vs (Vrp (Vie c.kind 1 (fun h6 => ?_) (fun h6 => ?_)))
    ·refine VC_skip (Vn (Vie c.kind 1 (fun h7 => ?_) (fun h7 => ?_)))
     ·refine Vr (Vp 2 (Vand 66 70 6 [1] ((spanB c.peak 1) && (spanB c.early 0)) (c.whole == 0) (fun hg9 J9 => ?_) ?_))
      ·refine Vl 3 ho1 ?_
       exact Vp 6 (Vk [70, 1] J9)
      refine Vp 7 (Vand 71 75 11 [1] (((spanB c.peak 1) && (spanB c.early 0)) && (c.whole == 0)) (c.burst == 0) (fun hg10 J10 => ?_) ?_)
      ·refine Vl 8 ho1 ?_
       exact Vp 11 (Vk [75, 1] J10)
      refine Vp 12 (Vand 76 80 16 [] ((((spanB c.peak 1) && (spanB c.early 0)) && (c.whole == 0)) && (c.burst == 0)) (c.least == 0) (fun hg11 J11 => ?_) ?_)
      ·refine Vl 13 ho1 ?_
       exact Vp 16 (Vk [80] J11)
      refine Ve (VQ_block_normal (Vn (Vs (Vs ?_))))
      have hE : (((((spanB c.peak 1) && (spanB c.early 0)) && (c.whole == 0)) && (c.burst == 0)) && (c.least == 0)) = (rightC c == 0) := right_cbr (by omega)
      refine VqC 3 (Bo (((((spanB c.peak 1) && (spanB c.early 0)) && (c.whole == 0)) && (c.burst == 0)) && (c.least == 0))) (Bo ((rightC c) == 0)) (by rw [hE]) (Vr (Ve (Vn (Vif (!((rightC c) == 0)) (fun h8 => ?_) (fun h8 => ?_)))))
      ·try simp only [BB] at h8
       refine Vrp (VC_ret (VQ_then_ret (Vr1 (I6 11) ?_)))
       exact ⟨congrArg (Value.int .i64) TAd1aa, hS⟩
      ·try simp only [BB] at h8
       refine VC_skip (Vn (Vrp (VC_ret (Vr1 (I6 0) ?_))))
       exact ⟨congrArg (Value.int .i64) TAd1aa, hS⟩
     ·refine Vrp (VC_ret (VQ_block_ret (VQ_then_ret (Vr1 (I6 12) ?_))))
      exact ⟨congrArg (Value.int .i64) TAd1aa, hS⟩
    ·refine Vrp (Vie c.kind 6 (fun h9 => ?_) (fun h9 => ?_))
     ·refine VC_skip (Vn (Vie c.kind 6 (fun h10 => ?_) (fun h10 => ?_)))
      ·refine Vr (Vp 2 (Vand 66 70 6 [1] ((spanB c.peak 1) && (spanB c.early 0)) (c.whole == 0) (fun hg12 J12 => ?_) ?_))
       ·refine Vl 3 ho1 ?_
        exact Vp 6 (Vk [70, 1] J12)
       refine Vp 7 (Vand 71 75 11 [1] (((spanB c.peak 1) && (spanB c.early 0)) && (c.whole == 0)) (c.burst == 0) (fun hg13 J13 => ?_) ?_)
       ·refine Vl 8 ho1 ?_
        exact Vp 11 (Vk [75, 1] J13)
       refine Vp 12 (Vand 76 80 16 [] ((((spanB c.peak 1) && (spanB c.early 0)) && (c.whole == 0)) && (c.burst == 0)) (c.least == 0) (fun hg14 J14 => ?_) ?_)
       ·refine Vl 13 ho1 ?_
        exact Vp 16 (Vk [80] J14)
       refine Ve (VQ_block_normal (Vn (Vs (Vs ?_))))
       have hE : (((((spanB c.peak 1) && (spanB c.early 0)) && (c.whole == 0)) && (c.burst == 0)) && (c.least == 0)) = (rightC c == 0) := right_cbr (by omega)
       refine VqC 3 (Bo (((((spanB c.peak 1) && (spanB c.early 0)) && (c.whole == 0)) && (c.burst == 0)) && (c.least == 0))) (Bo ((rightC c) == 0)) (by rw [hE]) (Vr (Ve (Vn (Vif (!((rightC c) == 0)) (fun h11 => ?_) (fun h11 => ?_)))))
       ·try simp only [BB] at h11
        refine Vrp (VC_ret (VQ_then_ret (Vr1 (I6 11) ?_)))
        exact ⟨congrArg (Value.int .i64) TAd1aa, hS⟩
       ·try simp only [BB] at h11
        refine VC_skip (Vn (Vrp (VC_ret (Vr1 (I6 0) ?_))))
        exact ⟨congrArg (Value.int .i64) TAd1aa, hS⟩
      ·refine Vrp (VC_ret (VQ_block_ret (VQ_then_ret (Vr1 (I6 12) ?_))))
       exact ⟨congrArg (Value.int .i64) TAd1aa, hS⟩
     ·refine Vr (Ve (Vn (Vie c.kind 7 (fun h12 => ?_) (fun h12 => ?_))))
      ·refine Vr (Vp 2 (Vand 66 70 6 [1] ((spanB c.peak 1) && (spanB c.early 0)) (c.whole == 0) (fun hg15 J15 => ?_) ?_))
       ·refine Vl 3 ho1 ?_
        exact Vp 6 (Vk [70, 1] J15)
       refine Vp 7 (Vand 71 75 11 [1] (((spanB c.peak 1) && (spanB c.early 0)) && (c.whole == 0)) (c.burst == 0) (fun hg16 J16 => ?_) ?_)
       ·refine Vl 8 ho1 ?_
        exact Vp 11 (Vk [75, 1] J16)
       refine Vp 12 (Vand 76 80 16 [] ((((spanB c.peak 1) && (spanB c.early 0)) && (c.whole == 0)) && (c.burst == 0)) (c.least == 0) (fun hg17 J17 => ?_) ?_)
       ·refine Vl 13 ho1 ?_
        exact Vp 16 (Vk [80] J17)
       refine Ve (VQ_block_normal (Vn (Vs (Vs ?_))))
       have hE : (((((spanB c.peak 1) && (spanB c.early 0)) && (c.whole == 0)) && (c.burst == 0)) && (c.least == 0)) = (rightC c == 0) := right_cbr (by omega)
       refine VqC 3 (Bo (((((spanB c.peak 1) && (spanB c.early 0)) && (c.whole == 0)) && (c.burst == 0)) && (c.least == 0))) (Bo ((rightC c) == 0)) (by rw [hE]) (Vr (Ve (Vn (Vif (!((rightC c) == 0)) (fun h13 => ?_) (fun h13 => ?_)))))
       ·try simp only [BB] at h13
        refine Vrp (VC_ret (VQ_then_ret (Vr1 (I6 11) ?_)))
        exact ⟨congrArg (Value.int .i64) TAd1aa, hS⟩
       ·try simp only [BB] at h13
        refine VC_skip (Vn (Vrp (VC_ret (Vr1 (I6 0) ?_))))
        exact ⟨congrArg (Value.int .i64) TAd1aa, hS⟩
      ·refine Vrp (VC_ret (VQ_block_ret (VQ_then_ret (Vr1 (I6 12) ?_))))
       exact ⟨congrArg (Value.int .i64) TAd1aa, hS⟩
 ·refine Vrp (Vie c.kind 3 (fun h14 => ?_) (fun h14 => ?_))
  ·refine VC_skip (Vn (Vie c.kind 3 (fun h15 => ?_) (fun h15 => ?_)))
   ·refine Vr (Vp 2 (Vand 19 25 8 [1] ((spanB c.peak 1) && (spanB c.early 0)) (spanB c.whole c.peak) (fun hg18 J18 => ?_) ?_))
    ·refine Vl 3 ho1 (Vl 5 ho1 ?_)
     refine Vc 6 Tryz.call69 ((span_ce c.whole c.peak) w1) ?_
     rintro _ w7 ⟨rfl, hc6⟩
     subst w7
     exact Vp 8 (Vk [25, 1] J18)
    refine Vp 9 (Vand 26 30 13 [1] (((spanB c.peak 1) && (spanB c.early 0)) && (spanB c.whole c.peak)) (spanB c.burst 0) (fun hg19 J19 => ?_) ?_)
    ·refine Vl 10 ho1 ?_
     refine Vc 11 Tryz.call69 ((span_ce c.burst 0) w1) ?_
     rintro _ w8 ⟨rfl, hc7⟩
     subst w8
     exact Vp 13 (Vk [30, 1] J19)
    refine Vp 14 (Vand 31 35 18 [] ((((spanB c.peak 1) && (spanB c.early 0)) && (spanB c.whole c.peak)) && (spanB c.burst 0)) (c.least == 0) (fun hg20 J20 => ?_) ?_)
    ·refine Vl 15 ho1 ?_
     exact Vp 18 (Vk [35] J20)
    refine Ve (VQ_block_normal (Vn (Vs (Vs ?_))))
    have hE : (((((spanB c.peak 1) && (spanB c.early 0)) && (spanB c.whole c.peak)) && (spanB c.burst 0)) && (c.least == 0)) = (rightC c == 0) := right_vbr (by omega)
    refine VqC 3 (Bo (((((spanB c.peak 1) && (spanB c.early 0)) && (spanB c.whole c.peak)) && (spanB c.burst 0)) && (c.least == 0))) (Bo ((rightC c) == 0)) (by rw [hE]) (Vr (Ve (Vn (Vif (!((rightC c) == 0)) (fun h16 => ?_) (fun h16 => ?_)))))
    ·try simp only [BB] at h16
     refine Vrp (VC_ret (VQ_then_ret (Vr1 (I6 11) ?_)))
     exact ⟨congrArg (Value.int .i64) TAd1aa, hS⟩
    ·try simp only [BB] at h16
     refine VC_skip (Vn (Vrp (VC_ret (Vr1 (I6 0) ?_))))
     exact ⟨congrArg (Value.int .i64) TAd1aa, hS⟩
   ·refine Vrp (Vie c.kind 5 (fun h17 => ?_) (fun h17 => ?_))
    ·refine Vr (Vp 2 (Vand 39 43 6 [1] ((spanB c.peak 1) && (spanB c.early 0)) (c.whole == 0) (fun hg21 J21 => ?_) ?_))
     ·refine Vl 3 ho1 ?_
      exact Vp 6 (Vk [43, 1] J21)
     refine Vp 7 (Vand 44 48 11 [1] (((spanB c.peak 1) && (spanB c.early 0)) && (c.whole == 0)) (c.burst == 0) (fun hg22 J22 => ?_) ?_)
     ·refine Vl 8 ho1 ?_
      exact Vp 11 (Vk [48, 1] J22)
     refine Vp 12 (Vand 49 60 23 [] ((((spanB c.peak 1) && (spanB c.early 0)) && (c.whole == 0)) && (c.burst == 0)) ((c.least == 0) || (spanB c.least c.peak)) (fun hg23 J23 => ?_) ?_)
     ·refine Vl 13 ho1 (Vp 16 (Vor 53 59 22 [49] (c.least == 0) (spanB c.least c.peak) (fun hg24 J24 => ?_) ?_))
      ·refine Vl 17 ho1 (Vl 19 ho1 ?_)
       refine Vc 20 Tryz.call69 ((span_ce c.least c.peak) w1) ?_
       rintro _ w9 ⟨rfl, hc8⟩
       subst w9
       exact Vp 22 (Vk [59, 49] J24)
      exact Vp 23 (Vk [60] J23)
     refine Ve (VQ_block_normal (Vn (Vs (Vs ?_))))
     have hE : (((((spanB c.peak 1) && (spanB c.early 0)) && (c.whole == 0)) && (c.burst == 0)) && ((c.least == 0) || (spanB c.least c.peak))) = (rightC c == 0) := right_abr (by omega)
     refine VqC 3 (Bo (((((spanB c.peak 1) && (spanB c.early 0)) && (c.whole == 0)) && (c.burst == 0)) && ((c.least == 0) || (spanB c.least c.peak)))) (Bo ((rightC c) == 0)) (by rw [hE]) (Vr (Ve (Vn (Vif (!((rightC c) == 0)) (fun h18 => ?_) (fun h18 => ?_)))))
     ·try simp only [BB] at h18
      refine Vrp (VC_ret (VQ_then_ret (Vr1 (I6 11) ?_)))
      exact ⟨congrArg (Value.int .i64) TAd1aa, hS⟩
     ·try simp only [BB] at h18
      refine VC_skip (Vn (Vrp (VC_ret (Vr1 (I6 0) ?_))))
      exact ⟨congrArg (Value.int .i64) TAd1aa, hS⟩
    ·refine Vs (Vrp (Vie c.kind 1 (fun h19 => ?_) (fun h19 => ?_)))
     ·refine VC_skip (Vn (Vie c.kind 1 (fun h20 => ?_) (fun h20 => ?_)))
      ·refine Vr (Vp 2 (Vand 66 70 6 [1] ((spanB c.peak 1) && (spanB c.early 0)) (c.whole == 0) (fun hg25 J25 => ?_) ?_))
       ·refine Vl 3 ho1 ?_
        exact Vp 6 (Vk [70, 1] J25)
       refine Vp 7 (Vand 71 75 11 [1] (((spanB c.peak 1) && (spanB c.early 0)) && (c.whole == 0)) (c.burst == 0) (fun hg26 J26 => ?_) ?_)
       ·refine Vl 8 ho1 ?_
        exact Vp 11 (Vk [75, 1] J26)
       refine Vp 12 (Vand 76 80 16 [] ((((spanB c.peak 1) && (spanB c.early 0)) && (c.whole == 0)) && (c.burst == 0)) (c.least == 0) (fun hg27 J27 => ?_) ?_)
       ·refine Vl 13 ho1 ?_
        exact Vp 16 (Vk [80] J27)
       refine Ve (VQ_block_normal (Vn (Vs (Vs ?_))))
       have hE : (((((spanB c.peak 1) && (spanB c.early 0)) && (c.whole == 0)) && (c.burst == 0)) && (c.least == 0)) = (rightC c == 0) := right_cbr (by omega)
       refine VqC 3 (Bo (((((spanB c.peak 1) && (spanB c.early 0)) && (c.whole == 0)) && (c.burst == 0)) && (c.least == 0))) (Bo ((rightC c) == 0)) (by rw [hE]) (Vr (Ve (Vn (Vif (!((rightC c) == 0)) (fun h21 => ?_) (fun h21 => ?_)))))
       ·try simp only [BB] at h21
        refine Vrp (VC_ret (VQ_then_ret (Vr1 (I6 11) ?_)))
        exact ⟨congrArg (Value.int .i64) TAd1aa, hS⟩
       ·try simp only [BB] at h21
        refine VC_skip (Vn (Vrp (VC_ret (Vr1 (I6 0) ?_))))
        exact ⟨congrArg (Value.int .i64) TAd1aa, hS⟩
      ·refine Vrp (VC_ret (VQ_block_ret (VQ_then_ret (Vr1 (I6 12) ?_))))
       exact ⟨congrArg (Value.int .i64) TAd1aa, hS⟩
     ·refine Vrp (Vie c.kind 6 (fun h22 => ?_) (fun h22 => ?_))
      ·refine VC_skip (Vn (Vie c.kind 6 (fun h23 => ?_) (fun h23 => ?_)))
       ·refine Vr (Vp 2 (Vand 66 70 6 [1] ((spanB c.peak 1) && (spanB c.early 0)) (c.whole == 0) (fun hg28 J28 => ?_) ?_))
        ·refine Vl 3 ho1 ?_
         exact Vp 6 (Vk [70, 1] J28)
        refine Vp 7 (Vand 71 75 11 [1] (((spanB c.peak 1) && (spanB c.early 0)) && (c.whole == 0)) (c.burst == 0) (fun hg29 J29 => ?_) ?_)
        ·refine Vl 8 ho1 ?_
         exact Vp 11 (Vk [75, 1] J29)
        refine Vp 12 (Vand 76 80 16 [] ((((spanB c.peak 1) && (spanB c.early 0)) && (c.whole == 0)) && (c.burst == 0)) (c.least == 0) (fun hg30 J30 => ?_) ?_)
        ·refine Vl 13 ho1 ?_
         exact Vp 16 (Vk [80] J30)
        refine Ve (VQ_block_normal (Vn (Vs (Vs ?_))))
        have hE : (((((spanB c.peak 1) && (spanB c.early 0)) && (c.whole == 0)) && (c.burst == 0)) && (c.least == 0)) = (rightC c == 0) := right_cbr (by omega)
        refine VqC 3 (Bo (((((spanB c.peak 1) && (spanB c.early 0)) && (c.whole == 0)) && (c.burst == 0)) && (c.least == 0))) (Bo ((rightC c) == 0)) (by rw [hE]) (Vr (Ve (Vn (Vif (!((rightC c) == 0)) (fun h24 => ?_) (fun h24 => ?_)))))
        ·try simp only [BB] at h24
         refine Vrp (VC_ret (VQ_then_ret (Vr1 (I6 11) ?_)))
         exact ⟨congrArg (Value.int .i64) TAd1aa, hS⟩
        ·try simp only [BB] at h24
         refine VC_skip (Vn (Vrp (VC_ret (Vr1 (I6 0) ?_))))
         exact ⟨congrArg (Value.int .i64) TAd1aa, hS⟩
       ·refine Vrp (VC_ret (VQ_block_ret (VQ_then_ret (Vr1 (I6 12) ?_))))
        exact ⟨congrArg (Value.int .i64) TAd1aa, hS⟩
      ·refine Vr (Ve (Vn (Vie c.kind 7 (fun h25 => ?_) (fun h25 => ?_))))
       ·refine Vr (Vp 2 (Vand 66 70 6 [1] ((spanB c.peak 1) && (spanB c.early 0)) (c.whole == 0) (fun hg31 J31 => ?_) ?_))
        ·refine Vl 3 ho1 ?_
         exact Vp 6 (Vk [70, 1] J31)
        refine Vp 7 (Vand 71 75 11 [1] (((spanB c.peak 1) && (spanB c.early 0)) && (c.whole == 0)) (c.burst == 0) (fun hg32 J32 => ?_) ?_)
        ·refine Vl 8 ho1 ?_
         exact Vp 11 (Vk [75, 1] J32)
        refine Vp 12 (Vand 76 80 16 [] ((((spanB c.peak 1) && (spanB c.early 0)) && (c.whole == 0)) && (c.burst == 0)) (c.least == 0) (fun hg33 J33 => ?_) ?_)
        ·refine Vl 13 ho1 ?_
         exact Vp 16 (Vk [80] J33)
        refine Ve (VQ_block_normal (Vn (Vs (Vs ?_))))
        have hE : (((((spanB c.peak 1) && (spanB c.early 0)) && (c.whole == 0)) && (c.burst == 0)) && (c.least == 0)) = (rightC c == 0) := right_cbr (by omega)
        refine VqC 3 (Bo (((((spanB c.peak 1) && (spanB c.early 0)) && (c.whole == 0)) && (c.burst == 0)) && (c.least == 0))) (Bo ((rightC c) == 0)) (by rw [hE]) (Vr (Ve (Vn (Vif (!((rightC c) == 0)) (fun h26 => ?_) (fun h26 => ?_)))))
        ·try simp only [BB] at h26
         refine Vrp (VC_ret (VQ_then_ret (Vr1 (I6 11) ?_)))
         exact ⟨congrArg (Value.int .i64) TAd1aa, hS⟩
        ·try simp only [BB] at h26
         refine VC_skip (Vn (Vrp (VC_ret (Vr1 (I6 0) ?_))))
         exact ⟨congrArg (Value.int .i64) TAd1aa, hS⟩
       ·refine Vrp (VC_ret (VQ_block_ret (VQ_then_ret (Vr1 (I6 12) ?_))))
        exact ⟨congrArg (Value.int .i64) TAd1aa, hS⟩
  ·refine Vr (Ve (Vn (Vie c.kind 4 (fun h27 => ?_) (fun h27 => ?_))))
   ·refine Vr (Vp 2 (Vand 19 25 8 [1] ((spanB c.peak 1) && (spanB c.early 0)) (spanB c.whole c.peak) (fun hg34 J34 => ?_) ?_))
    ·refine Vl 3 ho1 (Vl 5 ho1 ?_)
     refine Vc 6 Tryz.call69 ((span_ce c.whole c.peak) w1) ?_
     rintro _ w10 ⟨rfl, hc9⟩
     subst w10
     exact Vp 8 (Vk [25, 1] J34)
    refine Vp 9 (Vand 26 30 13 [1] (((spanB c.peak 1) && (spanB c.early 0)) && (spanB c.whole c.peak)) (spanB c.burst 0) (fun hg35 J35 => ?_) ?_)
    ·refine Vl 10 ho1 ?_
     refine Vc 11 Tryz.call69 ((span_ce c.burst 0) w1) ?_
     rintro _ w11 ⟨rfl, hc10⟩
     subst w11
     exact Vp 13 (Vk [30, 1] J35)
    refine Vp 14 (Vand 31 35 18 [] ((((spanB c.peak 1) && (spanB c.early 0)) && (spanB c.whole c.peak)) && (spanB c.burst 0)) (c.least == 0) (fun hg36 J36 => ?_) ?_)
    ·refine Vl 15 ho1 ?_
     exact Vp 18 (Vk [35] J36)
    refine Ve (VQ_block_normal (Vn (Vs (Vs ?_))))
    have hE : (((((spanB c.peak 1) && (spanB c.early 0)) && (spanB c.whole c.peak)) && (spanB c.burst 0)) && (c.least == 0)) = (rightC c == 0) := right_vbr (by omega)
    refine VqC 3 (Bo (((((spanB c.peak 1) && (spanB c.early 0)) && (spanB c.whole c.peak)) && (spanB c.burst 0)) && (c.least == 0))) (Bo ((rightC c) == 0)) (by rw [hE]) (Vr (Ve (Vn (Vif (!((rightC c) == 0)) (fun h28 => ?_) (fun h28 => ?_)))))
    ·try simp only [BB] at h28
     refine Vrp (VC_ret (VQ_then_ret (Vr1 (I6 11) ?_)))
     exact ⟨congrArg (Value.int .i64) TAd1aa, hS⟩
    ·try simp only [BB] at h28
     refine VC_skip (Vn (Vrp (VC_ret (Vr1 (I6 0) ?_))))
     exact ⟨congrArg (Value.int .i64) TAd1aa, hS⟩
   ·refine Vrp (Vie c.kind 5 (fun h29 => ?_) (fun h29 => ?_))
    ·refine Vr (Vp 2 (Vand 39 43 6 [1] ((spanB c.peak 1) && (spanB c.early 0)) (c.whole == 0) (fun hg37 J37 => ?_) ?_))
     ·refine Vl 3 ho1 ?_
      exact Vp 6 (Vk [43, 1] J37)
     refine Vp 7 (Vand 44 48 11 [1] (((spanB c.peak 1) && (spanB c.early 0)) && (c.whole == 0)) (c.burst == 0) (fun hg38 J38 => ?_) ?_)
     ·refine Vl 8 ho1 ?_
      exact Vp 11 (Vk [48, 1] J38)
     refine Vp 12 (Vand 49 60 23 [] ((((spanB c.peak 1) && (spanB c.early 0)) && (c.whole == 0)) && (c.burst == 0)) ((c.least == 0) || (spanB c.least c.peak)) (fun hg39 J39 => ?_) ?_)
     ·refine Vl 13 ho1 (Vp 16 (Vor 53 59 22 [49] (c.least == 0) (spanB c.least c.peak) (fun hg40 J40 => ?_) ?_))
      ·refine Vl 17 ho1 (Vl 19 ho1 ?_)
       refine Vc 20 Tryz.call69 ((span_ce c.least c.peak) w1) ?_
       rintro _ w12 ⟨rfl, hc11⟩
       subst w12
       exact Vp 22 (Vk [59, 49] J40)
      exact Vp 23 (Vk [60] J39)
     refine Ve (VQ_block_normal (Vn (Vs (Vs ?_))))
     have hE : (((((spanB c.peak 1) && (spanB c.early 0)) && (c.whole == 0)) && (c.burst == 0)) && ((c.least == 0) || (spanB c.least c.peak))) = (rightC c == 0) := right_abr (by omega)
     refine VqC 3 (Bo (((((spanB c.peak 1) && (spanB c.early 0)) && (c.whole == 0)) && (c.burst == 0)) && ((c.least == 0) || (spanB c.least c.peak)))) (Bo ((rightC c) == 0)) (by rw [hE]) (Vr (Ve (Vn (Vif (!((rightC c) == 0)) (fun h30 => ?_) (fun h30 => ?_)))))
     ·try simp only [BB] at h30
      refine Vrp (VC_ret (VQ_then_ret (Vr1 (I6 11) ?_)))
      exact ⟨congrArg (Value.int .i64) TAd1aa, hS⟩
     ·try simp only [BB] at h30
      refine VC_skip (Vn (Vrp (VC_ret (Vr1 (I6 0) ?_))))
      exact ⟨congrArg (Value.int .i64) TAd1aa, hS⟩
    ·refine Vs (Vrp (Vie c.kind 1 (fun h31 => ?_) (fun h31 => ?_)))
     ·refine VC_skip (Vn (Vie c.kind 1 (fun h32 => ?_) (fun h32 => ?_)))
      ·refine Vr (Vp 2 (Vand 66 70 6 [1] ((spanB c.peak 1) && (spanB c.early 0)) (c.whole == 0) (fun hg41 J41 => ?_) ?_))
       ·refine Vl 3 ho1 ?_
        exact Vp 6 (Vk [70, 1] J41)
       refine Vp 7 (Vand 71 75 11 [1] (((spanB c.peak 1) && (spanB c.early 0)) && (c.whole == 0)) (c.burst == 0) (fun hg42 J42 => ?_) ?_)
       ·refine Vl 8 ho1 ?_
        exact Vp 11 (Vk [75, 1] J42)
       refine Vp 12 (Vand 76 80 16 [] ((((spanB c.peak 1) && (spanB c.early 0)) && (c.whole == 0)) && (c.burst == 0)) (c.least == 0) (fun hg43 J43 => ?_) ?_)
       ·refine Vl 13 ho1 ?_
        exact Vp 16 (Vk [80] J43)
       refine Ve (VQ_block_normal (Vn (Vs (Vs ?_))))
       have hE : (((((spanB c.peak 1) && (spanB c.early 0)) && (c.whole == 0)) && (c.burst == 0)) && (c.least == 0)) = (rightC c == 0) := right_cbr (by omega)
       refine VqC 3 (Bo (((((spanB c.peak 1) && (spanB c.early 0)) && (c.whole == 0)) && (c.burst == 0)) && (c.least == 0))) (Bo ((rightC c) == 0)) (by rw [hE]) (Vr (Ve (Vn (Vif (!((rightC c) == 0)) (fun h33 => ?_) (fun h33 => ?_)))))
       ·try simp only [BB] at h33
        refine Vrp (VC_ret (VQ_then_ret (Vr1 (I6 11) ?_)))
        exact ⟨congrArg (Value.int .i64) TAd1aa, hS⟩
       ·try simp only [BB] at h33
        refine VC_skip (Vn (Vrp (VC_ret (Vr1 (I6 0) ?_))))
        exact ⟨congrArg (Value.int .i64) TAd1aa, hS⟩
      ·refine Vrp (VC_ret (VQ_block_ret (VQ_then_ret (Vr1 (I6 12) ?_))))
       exact ⟨congrArg (Value.int .i64) TAd1aa, hS⟩
     ·refine Vrp (Vie c.kind 6 (fun h34 => ?_) (fun h34 => ?_))
      ·refine VC_skip (Vn (Vie c.kind 6 (fun h35 => ?_) (fun h35 => ?_)))
       ·refine Vr (Vp 2 (Vand 66 70 6 [1] ((spanB c.peak 1) && (spanB c.early 0)) (c.whole == 0) (fun hg44 J44 => ?_) ?_))
        ·refine Vl 3 ho1 ?_
         exact Vp 6 (Vk [70, 1] J44)
        refine Vp 7 (Vand 71 75 11 [1] (((spanB c.peak 1) && (spanB c.early 0)) && (c.whole == 0)) (c.burst == 0) (fun hg45 J45 => ?_) ?_)
        ·refine Vl 8 ho1 ?_
         exact Vp 11 (Vk [75, 1] J45)
        refine Vp 12 (Vand 76 80 16 [] ((((spanB c.peak 1) && (spanB c.early 0)) && (c.whole == 0)) && (c.burst == 0)) (c.least == 0) (fun hg46 J46 => ?_) ?_)
        ·refine Vl 13 ho1 ?_
         exact Vp 16 (Vk [80] J46)
        refine Ve (VQ_block_normal (Vn (Vs (Vs ?_))))
        have hE : (((((spanB c.peak 1) && (spanB c.early 0)) && (c.whole == 0)) && (c.burst == 0)) && (c.least == 0)) = (rightC c == 0) := right_cbr (by omega)
        refine VqC 3 (Bo (((((spanB c.peak 1) && (spanB c.early 0)) && (c.whole == 0)) && (c.burst == 0)) && (c.least == 0))) (Bo ((rightC c) == 0)) (by rw [hE]) (Vr (Ve (Vn (Vif (!((rightC c) == 0)) (fun h36 => ?_) (fun h36 => ?_)))))
        ·try simp only [BB] at h36
         refine Vrp (VC_ret (VQ_then_ret (Vr1 (I6 11) ?_)))
         exact ⟨congrArg (Value.int .i64) TAd1aa, hS⟩
        ·try simp only [BB] at h36
         refine VC_skip (Vn (Vrp (VC_ret (Vr1 (I6 0) ?_))))
         exact ⟨congrArg (Value.int .i64) TAd1aa, hS⟩
       ·refine Vrp (VC_ret (VQ_block_ret (VQ_then_ret (Vr1 (I6 12) ?_))))
        exact ⟨congrArg (Value.int .i64) TAd1aa, hS⟩
      ·refine Vr (Ve (Vn (Vie c.kind 7 (fun h37 => ?_) (fun h37 => ?_))))
       ·refine Vr (Vp 2 (Vand 66 70 6 [1] ((spanB c.peak 1) && (spanB c.early 0)) (c.whole == 0) (fun hg47 J47 => ?_) ?_))
        ·refine Vl 3 ho1 ?_
         exact Vp 6 (Vk [70, 1] J47)
        refine Vp 7 (Vand 71 75 11 [1] (((spanB c.peak 1) && (spanB c.early 0)) && (c.whole == 0)) (c.burst == 0) (fun hg48 J48 => ?_) ?_)
        ·refine Vl 8 ho1 ?_
         exact Vp 11 (Vk [75, 1] J48)
        refine Vp 12 (Vand 76 80 16 [] ((((spanB c.peak 1) && (spanB c.early 0)) && (c.whole == 0)) && (c.burst == 0)) (c.least == 0) (fun hg49 J49 => ?_) ?_)
        ·refine Vl 13 ho1 ?_
         exact Vp 16 (Vk [80] J49)
        refine Ve (VQ_block_normal (Vn (Vs (Vs ?_))))
        have hE : (((((spanB c.peak 1) && (spanB c.early 0)) && (c.whole == 0)) && (c.burst == 0)) && (c.least == 0)) = (rightC c == 0) := right_cbr (by omega)
        refine VqC 3 (Bo (((((spanB c.peak 1) && (spanB c.early 0)) && (c.whole == 0)) && (c.burst == 0)) && (c.least == 0))) (Bo ((rightC c) == 0)) (by rw [hE]) (Vr (Ve (Vn (Vif (!((rightC c) == 0)) (fun h38 => ?_) (fun h38 => ?_)))))
        ·try simp only [BB] at h38
         refine Vrp (VC_ret (VQ_then_ret (Vr1 (I6 11) ?_)))
         exact ⟨congrArg (Value.int .i64) TAd1aa, hS⟩
        ·try simp only [BB] at h38
         refine VC_skip (Vn (Vrp (VC_ret (Vr1 (I6 0) ?_))))
         exact ⟨congrArg (Value.int .i64) TAd1aa, hS⟩
       ·refine Vrp (VC_ret (VQ_block_ret (VQ_then_ret (Vr1 (I6 12) ?_))))
        exact ⟨congrArg (Value.int .i64) TAd1aa, hS⟩

theorem always_any (c : Con) (w : World) :
  CV Tryz.prog 71 #[.agg #[I6 c.kind, I6 c.peak, I6 c.early, I6 c.whole, I6 c.burst, I6 c.least]] w (fun x w1 => x = Bo (alwaysC c) ∧ Step No w w1) := by
 have hS : Step No w w := Step.refl _ _
 refine VCe Tryz.func71 (Vs (Vr ?_))
 refine Vx 0 32 #[I6 c.kind, I6 c.peak, I6 c.early, I6 c.whole, I6 c.burst, I6 c.least] ?_
 intro b1 w1 hn1
 replace hS := Step.trans hS (hn1.step No)
 have ho1 := hn1.own
 refine Ve (Vn (Vs (Vr (Vl 1 ho1 (VL_pure 4 [1, 6] [(1, Pt b1 0), (6, Bo (c.kind == 7))] (by kernel_rfl) rfl (VL_beq c.kind 7 (fun bV => [(1, Pt b1 0), (6, Bo bV)]) rfl (fun hg1 => ?_) (fun hg1 => ?_)))))))
 ·refine Vl 4 ho1 ?_
  refine Vc 5 Tryz.call52 (cright_any c _) ?_
  rintro _ w2 ⟨rfl, hc1⟩
  replace hS := Step.trans hS hc1
  refine Ve (Vn (VC_ret (Vr1 (Bo ((rightC c) == 0)) ?_)))
  exact ⟨congrArg Value.bool TAd1ae, hS⟩
 ·refine Ve (Vn (VC_ret (Vr1 (Bo false) ?_)))
  exact ⟨congrArg Value.bool TAd1ae, hS⟩

theorem num_eq {c : Con} (h1 : 0 ≤ perC c.whole * 4096 ∧ perC c.whole * 4096 ≤ 4294967296) (h2 : 0 ≤ perC c.peak * c.burst ∧ perC c.peak * c.burst ≤ 1152921504606846976) : IntKind.wrap .i64 (IntKind.wrap .i64 (perC c.whole * 4096) + IntKind.wrap .i64 (perC c.peak * c.burst)) = perC c.whole * 4096 + perC c.peak * c.burst := by
  rw [wrap_i64 (perC c.whole * 4096) (by omega) (by omega), wrap_i64 (perC c.peak * c.burst) (by omega) (by omega), wrap_i64 _ (by omega) (by omega)]
theorem bur_eq {c : Con} (h : 0 ≤ c.burst ∧ c.burst ≤ 1099511627776) : IntKind.wrap .i64 (c.burst + 4096) = c.burst + 4096 := wrap_i64 _ (by omega) (by omega)
theorem up_ce {c : Con} (h1 : 0 ≤ perC c.whole * 4096 ∧ perC c.whole * 4096 ≤ 4294967296) (h2 : 0 ≤ perC c.peak * c.burst ∧ perC c.peak * c.burst ≤ 1152921504606846976) (h3 : 0 ≤ c.burst ∧ c.burst ≤ 1099511627776) : CE Tryz.prog 55 #[.int .i64 (IntKind.wrap .i64 (IntKind.wrap .i64 (perC c.whole * 4096) + IntKind.wrap .i64 (perC c.peak * c.burst))), .int .i64 (IntKind.wrap .i64 (c.burst + 4096))] (.int .i64 (upC (perC c.whole * 4096 + perC c.peak * c.burst) (c.burst + 4096))) := by
  intro w
  rw [num_eq h1 h2, bur_eq h3]
  exact up_w _ _ (by omega) (by omega) (by omega) (by omega) w
theorem need_any (c : Con) (w : World) :
  CV Tryz.prog 27 #[.agg #[I6 c.kind, I6 c.peak, I6 c.early, I6 c.whole, I6 c.burst, I6 c.least]] w (fun x w1 => x = I6 (needC c) ∧ Step No w w1) := by
 have hS : Step No w w := Step.refl _ _
 refine VCe Tryz.func27 (Vs (Vr ?_))
 refine Vx 0 32 #[I6 c.kind, I6 c.peak, I6 c.early, I6 c.whole, I6 c.burst, I6 c.least] ?_
 intro b1 w1 hn1
 replace hS := Step.trans hS (hn1.step No)
 have ho1 := hn1.own
 refine Ve (Vn (Vs (Vs (Vr (Vl 0 ho1 ?_)))))
 refine Vc 1 Tryz.call52 (cright_any c _) ?_
 rintro _ w2 ⟨rfl, hc1⟩
 replace hS := Step.trans hS hc1
 replace ho1 := ho1.no hc1
 refine Ve (Vn (Viu (rightC c) 0 (fun h1 => ?_) (fun h1 => ?_)))
 ·refine Vrp (VC_ret (VQ_then_ret (Vr1 (I6 0) ?_)))
  exact ⟨congrArg (Value.int .i64) TAd1ab, hS⟩
 ·refine VC_skip (Vn (Vrp (Vs (Vs (Vr (Vl 1 ho1 (Ve (Vn (VC_block (Vrp (Vie c.kind 1 (fun h2 => ?_) (fun h2 => ?_))))))))))))
  ·refine Vr (Vl 1 ho1 ?_)
   refine Vc 2 Tryz.call54 ((per_ce c.peak) w2) ?_
   rintro _ w3 ⟨rfl, hc2⟩
   subst w3
   refine Ve (VQ_block_normal (Vn (Vrp (VC_ret (Vr1 (I6 (perC c.peak)) ?_)))))
   exact ⟨congrArg (Value.int .i64) TAd1ab, hS⟩
  ·refine Vrp (Vie c.kind 5 (fun h3 => ?_) (fun h3 => ?_))
   ·refine Vr (Vl 1 ho1 ?_)
    refine Vc 2 Tryz.call54 ((per_ce c.least) w2) ?_
    rintro _ w4 ⟨rfl, hc3⟩
    subst w4
    refine Ve (VQ_block_normal (Vn (Vrp (VC_ret (Vr1 (I6 (perC c.least)) ?_)))))
    exact ⟨congrArg (Value.int .i64) TAd1ab, hS⟩
   ·refine Vs (Vrp (Vie c.kind 2 (fun h4 => ?_) (fun h4 => ?_)))
    ·refine VC_skip (Vn (Vie c.kind 2 (fun h5 => ?_) (fun h5 => ?_)))
     ·have hr0 : rightC c = 0 := by assumption
      have hk : c.kind = 2 ∨ c.kind = 3 ∨ c.kind = 4 := by omega
      obtain ⟨hn1, hn2, hn3⟩ := vbr_num hr0 hk
      refine Vd 14 [(1, I6 c.whole), (2, I6 (perC c.whole)), (5, I6 c.peak), (6, I6 (perC c.peak)), (8, I6 c.burst), (12, I6 c.burst)] [1, 2, 5, 6, 8, 12] ?_ ?_
      ·intro w5 hs1
       replace ho1 := ho1.no hs1
       exact ⟨Dl ho1, Dc Tryz.call54 ((per_ce c.whole).no _), Dl ho1, Dc Tryz.call54 ((per_ce c.peak).no _), Dl ho1, Dl ho1, trivial⟩
      intro w5 hs1
      replace hS := Step.trans hS hs1
      refine VL_keep [33, 36] [(33, I6 (IntKind.wrap .i64 ((IntKind.wrap .i64 ((perC c.whole) * 4096)) + (IntKind.wrap .i64 ((perC c.peak) * c.burst))))), (36, I6 (IntKind.wrap .i64 (c.burst + 4096)))] (by kernel_rfl) ?_
      refine Vc 14 Tryz.call55 ((up_ce hn1 hn2 hn3) w5) ?_
      rintro _ w6 ⟨rfl, hc4⟩
      subst w6
      refine Ve (VQ_block_normal (Vn (Vrp (VC_ret (Vr1 (I6 (upC (perC c.whole * 4096 + perC c.peak * c.burst) (c.burst + 4096))) ?_)))))
      exact ⟨congrArg (Value.int .i64) TAd1ab, hS⟩
     ·refine VC_skip (VQ_block_normal (Vn (Vrp (VC_ret (Vr1 (I6 0) ?_)))))
      exact ⟨congrArg (Value.int .i64) TAd1ab, hS⟩
    ·refine Vrp (Vie c.kind 3 (fun h6 => ?_) (fun h6 => ?_))
     ·refine VC_skip (Vn (Vie c.kind 3 (fun h7 => ?_) (fun h7 => ?_)))
      ·have hr0 : rightC c = 0 := by assumption
       have hk : c.kind = 2 ∨ c.kind = 3 ∨ c.kind = 4 := by omega
       obtain ⟨hn1, hn2, hn3⟩ := vbr_num hr0 hk
       refine Vd 14 [(1, I6 c.whole), (2, I6 (perC c.whole)), (5, I6 c.peak), (6, I6 (perC c.peak)), (8, I6 c.burst), (12, I6 c.burst)] [1, 2, 5, 6, 8, 12] ?_ ?_
       ·intro w7 hs2
        replace ho1 := ho1.no hs2
        exact ⟨Dl ho1, Dc Tryz.call54 ((per_ce c.whole).no _), Dl ho1, Dc Tryz.call54 ((per_ce c.peak).no _), Dl ho1, Dl ho1, trivial⟩
       intro w7 hs2
       replace hS := Step.trans hS hs2
       refine VL_keep [33, 36] [(33, I6 (IntKind.wrap .i64 ((IntKind.wrap .i64 ((perC c.whole) * 4096)) + (IntKind.wrap .i64 ((perC c.peak) * c.burst))))), (36, I6 (IntKind.wrap .i64 (c.burst + 4096)))] (by kernel_rfl) ?_
       refine Vc 14 Tryz.call55 ((up_ce hn1 hn2 hn3) w7) ?_
       rintro _ w8 ⟨rfl, hc5⟩
       subst w8
       refine Ve (VQ_block_normal (Vn (Vrp (VC_ret (Vr1 (I6 (upC (perC c.whole * 4096 + perC c.peak * c.burst) (c.burst + 4096))) ?_)))))
       exact ⟨congrArg (Value.int .i64) TAd1ab, hS⟩
      ·refine VC_skip (VQ_block_normal (Vn (Vrp (VC_ret (Vr1 (I6 0) ?_)))))
       exact ⟨congrArg (Value.int .i64) TAd1ab, hS⟩
     ·refine Vr (Ve (Vn (Vie c.kind 4 (fun h8 => ?_) (fun h8 => ?_))))
      ·have hr0 : rightC c = 0 := by assumption
       have hk : c.kind = 2 ∨ c.kind = 3 ∨ c.kind = 4 := by omega
       obtain ⟨hn1, hn2, hn3⟩ := vbr_num hr0 hk
       refine Vd 14 [(1, I6 c.whole), (2, I6 (perC c.whole)), (5, I6 c.peak), (6, I6 (perC c.peak)), (8, I6 c.burst), (12, I6 c.burst)] [1, 2, 5, 6, 8, 12] ?_ ?_
       ·intro w9 hs3
        replace ho1 := ho1.no hs3
        exact ⟨Dl ho1, Dc Tryz.call54 ((per_ce c.whole).no _), Dl ho1, Dc Tryz.call54 ((per_ce c.peak).no _), Dl ho1, Dl ho1, trivial⟩
       intro w9 hs3
       replace hS := Step.trans hS hs3
       refine VL_keep [33, 36] [(33, I6 (IntKind.wrap .i64 ((IntKind.wrap .i64 ((perC c.whole) * 4096)) + (IntKind.wrap .i64 ((perC c.peak) * c.burst))))), (36, I6 (IntKind.wrap .i64 (c.burst + 4096)))] (by kernel_rfl) ?_
       refine Vc 14 Tryz.call55 ((up_ce hn1 hn2 hn3) w9) ?_
       rintro _ w10 ⟨rfl, hc6⟩
       subst w10
       refine Ve (VQ_block_normal (Vn (Vrp (VC_ret (Vr1 (I6 (upC (perC c.whole * 4096 + perC c.peak * c.burst) (c.burst + 4096))) ?_)))))
       exact ⟨congrArg (Value.int .i64) TAd1ab, hS⟩
      ·refine VC_skip (VQ_block_normal (Vn (Vrp (VC_ret (Vr1 (I6 0) ?_)))))
       exact ⟨congrArg (Value.int .i64) TAd1ab, hS⟩

theorem bnew_any (s e : Int) (w : World) :
  CV Tryz.prog 73 #[I6 s, I6 e] w (fun x w1 => ∃ bk, x = Pt bk 0 ∧ bk = w.heap.size ∧ w1.heap.size = w.heap.size + 1 ∧ Own w1 bk #[I6 (bkNew s e).step, I6 (bkNew s e).early, I6 (bkNew s e).next, Bo (bkNew s e).any] 135 ∧ Step No w w1) := by
 have hS : Step No w w := Step.refl _ _
 refine VCe Tryz.func73 (Vrp (Vs (Vr (Vp 1 ?_))))
 refine Vc 1 Tryz.call80 ((within_ce s 1 1152921504606846976) w) ?_
 rintro _ w1 ⟨rfl, hc1⟩
 subst w1
 refine Vp 3 ?_
 refine Vc 3 Tryz.call80 ((within_ce e 0 1152921504606846976) w) ?_
 rintro _ w2 ⟨rfl, hc2⟩
 subst w2
 refine Vp 5 ?_
 refine Vx 5 135 #[I6 (imax 1 (imin s 1152921504606846976)), I6 (imax 0 (imin e 1152921504606846976)), I6 0, Bo false] ?_
 intro b1 w3 hn1
 replace hS := Step.trans hS (hn1.step No)
 have ho1 := hn1.own
 have hzhn1 := hn1.size
 have hqhn1 := hn1.eqb
 refine Ve (Vn (VC_ret (Vr1 (Pt b1 0) ?_)))
 exact ⟨b1, rfl, hqhn1, hzhn1, ho1, hS⟩

theorem bfits_any (bk : Nat) (b : Bk) (t : Int) (w : World) (hb : BkI b) (ho : Own w bk #[I6 b.step, I6 b.early, I6 b.next, Bo b.any] 135) :
  CV Tryz.prog 125 #[Pt bk 0, I6 t] w (fun x w1 => x = Bo (fitsB b t) ∧ Step No w w1) := by
 have hS : Step No w w := Step.refl _ _
 refine VCe Tryz.func125 (Vrp (Vs ?_))
 have hs1 := drew_step w
 have hs1z : w.heap.size = w.drew.heap.size := rfl
 refine Tx 20 (fun k => w.heap.size ≤ k) [10] [0, 1, 2, 3, 4, 5, 6, 7, 8, 9, 11, 12, 13, 14, 15, 16, 17, 18, 19, 10] ?_
 have hzl1 := ho.lt
 generalize w.drew = w1 at hs1 hs1z ⊢
 replace hS := Step.trans hS hs1
 replace ho := ho.no hs1
 refine Tp 6 (Tl (fun w2 hr1 => ho.step hr1 (by (try simp only); omega)) (Tp 2 ?_))
 rcases Bool.eq_false_or_eq_true b.any with hg1 | hg1
 ·refine Tq [(8, Bo (!b.any)), (7, Bo (!b.any)), (6, Bo b.any)] [(8, Bo false), (7, Bo false), (6, Bo true)] (by simp only [hg1, Bool.not_true, Bool.not_false]) ?_
  try simp only [bne_iff_ne, beq_iff_eq, decide_eq_true_eq, decide_eq_false_iff_not, bne_eq_false_iff_eq, beq_eq_false_iff_ne, ne_eq] at hg1
  refine Tp 4 (Tl (fun w3 hr2 => ho.step hr2 (by (try simp only); omega)) (Tp 3 (Tl (fun w4 hr3 => ho.step hr3 (by (try simp only); omega)) (Tp 1 (Th ?_)))))
  intro w5 hs2
  replace hS := Step.trans hS hs2
  refine Tc Tryz.call80 ((within_ce t 0 1152921504606846976).no _) ?_ ?_
  ·rintro _ w6 ⟨rfl, hc1⟩
   exact Step.mono hc1 (by intro i hi; first | exact hi.elim | exact .inl hi | ((try simp only at hi ⊢); omega))
  rintro _ w6 ⟨rfl, hc1⟩
  replace hS := Step.trans hS hc1
  refine VT_end ?_
  intro w7 hs3
  replace hS := Step.trans hS hs3
  refine Ve (Vn (VC_ret (Vr1 (Bo (decide ((imax 0 (imin t 1152921504606846976)) ≥ (IntKind.wrap .i64 (b.next - b.early))))) ?_)))
  exact ⟨congrArg Value.bool TAd1ad, hS⟩
 ·refine Tq [(8, Bo (!b.any)), (7, Bo (!b.any)), (6, Bo b.any)] [(8, Bo true), (7, Bo true), (6, Bo false)] (by simp only [hg1, Bool.not_true, Bool.not_false]) ?_
  try simp only [bne_iff_ne, beq_iff_eq, decide_eq_true_eq, decide_eq_false_iff_not, bne_eq_false_iff_eq, beq_eq_false_iff_ne, ne_eq] at hg1
  refine Tp 11 (VT_end ?_)
  intro w8 hs4
  replace hS := Step.trans hS hs4
  refine Ve (Vn (VC_ret (Vr1 (Bo true) ?_)))
  exact ⟨congrArg Value.bool TAd1ad, hS⟩

theorem btake_any (bk : Nat) (b : Bk) (t : Int) (w : World) (hb : BkI b) (ho : Own w bk #[I6 b.step, I6 b.early, I6 b.next, Bo b.any] 135) :
  CV Tryz.prog 126 #[Pt bk 0, I6 t] w (fun x w1 => x = Bo (fitsB b t) ∧ Own w1 bk #[I6 (takeB b t).step, I6 (takeB b t).early, I6 (takeB b t).next, Bo (takeB b t).any] 135 ∧ Step (Just bk) w w1) := by
 have hS : Step (Just bk) w w := Step.refl _ _
 refine VCe Tryz.func126 (Vrp (Vs (Vs (Vr (Vp 2 ?_)))))
 refine Vc 2 Tryz.call125 (bfits_any bk b t _ hb ho) ?_
 rintro _ w1 ⟨rfl, hc1⟩
 replace hS := Step.trans hS (Step.weak hc1)
 replace ho := ho.no hc1
 refine Ve (Vn (Vif (!(fitsB b t)) (fun h1 => ?_) (fun h1 => ?_)))
 ·try simp only [BB] at h1
  refine Vrp (VC_ret (VQ_then_ret (Vr1 (Bo false) ?_)))
  exact ⟨congrArg Value.bool h1.symm, Own.cast ho (by unfold takeB; rw [if_neg (by rw [h1]; decide)]), hS⟩
 ·try simp only [BB] at h1
  refine VC_skip (Vn (Vs (Vd 13 [(4, I6 b.next), (6, I6 (imax 0 (imin t 1152921504606846976))), (11, I6 b.step)] [4, 6, 11] ?_ ?_)))
  ·intro w2 hs1
   replace ho := ho.no hs1
   exact ⟨Dl ho, Dc Tryz.call80 ((within_ce t 0 1152921504606846976).no _), Dl ho, trivial⟩
  intro w2 hs1
  replace hS := Step.trans hS (Step.weak hs1)
  replace ho := ho.no hs1
  refine Vst 15 (o := 2) [I6 (IntKind.wrap .i64 ((imax b.next (imax 0 (imin t 1152921504606846976))) + b.step))] ho #[I6 b.step, I6 b.early, I6 (IntKind.wrap .i64 ((imax b.next (imax 0 (imin t 1152921504606846976))) + b.step)), Bo b.any] ?_
  intro w3 hw1
  replace hS := Step.trans hS (Step.mono hw1.step TAd1ac)
  have ho1 := hw1.own
  refine Ve (Vn (Vs (Vr (Vst 3 (o := 3) [Bo true] ho1 #[I6 b.step, I6 b.early, I6 (IntKind.wrap .i64 ((imax b.next (imax 0 (imin t 1152921504606846976))) + b.step)), Bo true] ?_))))
  intro w4 hw2
  replace hS := Step.trans hS (Step.mono hw2.step TAd1ac)
  have ho2 := hw2.own
  refine Ve (Vn (Vrp (VC_ret (Vr1 (Bo true) ?_))))
  exact ⟨congrArg Value.bool h1.symm, Own.cast ho2 (by have h9 := hb.max_le h1; have h8 := hb.step; unfold takeB; rw [if_pos h1]; simp only; rw [show IntKind.wrap .i64 (imax b.next (imax 0 (imin t 1152921504606846976)) + b.step) = imax b.next (clT t) + b.step from wrap_i64 _ (by unfold clT at h9; omega) (by unfold clT at h9; omega)]), hS⟩

end Go.Proofs.YthchmlidobgkoaaGreat
end

section
/- Layer 20: what lies in memory: ledgers, policers. -/
set_option linter.unusedVariables false
set_option linter.unusedSimpArgs false
namespace Go.Proofs.YthchmlidobgkoaaGreat
open Go.Vc Go.RowKit

abbrev ei (n : Int) : Value := .int .i64 n
abbrev ui (n : Int) : Value := .int .i64 n
theorem keyTi : KeyT Tryz.prog 3 ei := keyT_int (by kernel_rfl)

section
variable {w w' : World} {F : Nat → Prop}
/-! ### Ledgers -/
structure Ld (w : World) (lg lm : Nat) (room used : Int) (N : List (Int × Int)) : Prop where
  own : Own w lg #[.int .i64 room, .int .i64 used, .map (some lm)] 85
  map : MapL w lm ei ui N
theorem Ld.ne {lg lm : Nat} {room used : Int} {N : List (Int × Int)} (h : Ld w lg lm room used N) : lg ≠ lm := by
  rintro rfl
  obtain ⟨⟨es, ck, h1, _⟩, _⟩ := h.map
  have := h.own
  unfold Own at this
  rw [h1] at this; cases this
theorem Ld.step {lg lm : Nat} {room used : Int} {N : List (Int × Int)} (h : Ld w lg lm room used N) (hs : Step F w w') (h1 : ¬ F lg) (h2 : ¬ F lm) : Ld w' lg lm room used N := ⟨h.own.step hs h1, h.map.step hs h2⟩
theorem Ld.no {lg lm : Nat} {room used : Int} {N : List (Int × Int)} (h : Ld w lg lm room used N) (hs : Step No w w') : Ld w' lg lm room used N := h.step hs id id
theorem Ld.lt {lg lm : Nat} {room used : Int} {N : List (Int × Int)} (h : Ld w lg lm room used N) : lg < w.heap.size ∧ lm < w.heap.size := ⟨h.own.lt, h.map.lt⟩
end

/-! ### Policers -/
abbrev Rb := Rl × Nat
def rlc (p : Rb) : List Value := [.int .i64 p.1.step, .int .i64 p.1.early, .bool p.1.zero, .bool p.1.tag, .iface 123 (.pointer (some ⟨p.2, 0, none⟩))]
theorem rlc_len (p : Rb) : (rlc p).length = 5 := rfl
theorem rlc_one (p : Rb) : ∀ u ∈ rlc p, oneC u = true := by
  intro u hu
  simp only [rlc, List.mem_cons, List.not_mem_nil, or_false] at hu
  rcases hu with rfl | rfl | rfl | rfl | rfl <;> rfl
def BksW (w : World) (l : List Rb) : Prop := ∀ p ∈ l, Own w p.2 #[.int .i64 p.1.b.step, .int .i64 p.1.b.early, .int .i64 p.1.b.next, .bool p.1.b.any] 135
def PT (w : World) (k : Nat) : Prop := TyB w 112 k ∨ TyB w 108 k ∨ TyB w 135 k
section
variable {w w' : World} {F : Nat → Prop} {l : List Rb}
theorem BksW.step (h : BksW w l) (hs : Step F w w') (hF : ∀ p ∈ l, ¬ F p.2) : BksW w' l := fun p hp => (h p hp).step hs (hF p hp)
theorem BksW.no (h : BksW w l) (hs : Step No w w') : BksW w' l := h.step hs fun _ _ => id
theorem BksW.lt (h : BksW w l) : ∀ p ∈ l, p.2 < w.heap.size := fun p hp => (h p hp).lt
theorem PT.lt {k : Nat} (h : PT w k) : k < w.heap.size := by rcases h with h | h | h <;> exact h.lt
theorem PT.step {k : Nat} (h : PT w k) (hs : Step F w w') (hF : ¬ F k) : PT w' k := by
  rcases h with h | h | h
  · exact .inl (h.step hs hF)
  · exact .inr (.inl (h.step hs hF))
  · exact .inr (.inr (h.step hs hF))
def polArr (a : Bool) (rb n c : Nat) (c0 c1 c2 c3 : Int) : Array Value := #[.bool a, .slice (some ⟨rb, 0, none⟩) n c, .int .i64 c0, .int .i64 c1, .int .i64 c2, .int .i64 c3]
/-- A policer at an address: its rules and their buckets; all that it has lies in Y. -/
structure PlX (w : World) (pp : Nat) (Y : Nat → Prop) (a : Bool) (l : List Rb) (rb c : Nat) (c0 c1 c2 c3 : Int) : Prop where
  own : Own w pp (polArr a rb l.length c c0 c1 c2 c3) 112
  row : RowE w rb 108 (flat rlc l)
  bks : BksW w l
  nodup : (l.map (·.2)).Nodup
  inP : Y pp
  inR : Y rb
  inB : ∀ p ∈ l, Y p.2
  ty : ∀ k, Y k → PT w k
  pos : 0 < l.length
def Pl (w : World) (pp : Nat) (Y : Nat → Prop) (a : Bool) (rs : List Rl) : Prop := RlsI rs ∧ ∃ l rb c c0 c1 c2 c3, rs = l.map (·.1) ∧ PlX w pp Y a l rb c c0 c1 c2 c3
theorem PlX.step {pp : Nat} {Y : Nat → Prop} {a : Bool} {rb c : Nat} {c0 c1 c2 c3 : Int} (h : PlX w pp Y a l rb c c0 c1 c2 c3) (hs : Step F w w') (hF : ∀ k, Y k → ¬ F k) : PlX w' pp Y a l rb c c0 c1 c2 c3 :=
  ⟨h.own.step hs (hF _ h.inP), h.row.step hs (hF _ h.inR), h.bks.step hs fun p hp => hF _ (h.inB p hp), h.nodup, h.inP, h.inR, h.inB, fun k hk => (h.ty k hk).step hs (hF k hk), h.pos⟩
theorem Pl.step {pp : Nat} {Y : Nat → Prop} {a : Bool} {rs : List Rl} (h : Pl w pp Y a rs) (hs : Step F w w') (hF : ∀ k, Y k → ¬ F k) : Pl w' pp Y a rs := by
  obtain ⟨h0, l, rb, c, c0, c1, c2, c3, h1, h2⟩ := h
  exact ⟨h0, l, rb, c, c0, c1, c2, c3, h1, h2.step hs hF⟩
theorem Pl.no {pp : Nat} {Y : Nat → Prop} {a : Bool} {rs : List Rl} (h : Pl w pp Y a rs) (hs : Step No w w') : Pl w' pp Y a rs := h.step hs fun _ _ => id
theorem Pl.inP {pp : Nat} {Y : Nat → Prop} {a : Bool} {rs : List Rl} (h : Pl w pp Y a rs) : Y pp := by obtain ⟨h0, l, rb, c, c0, c1, c2, c3, h1, h2⟩ := h; exact h2.inP
theorem Pl.ty {pp : Nat} {Y : Nat → Prop} {a : Bool} {rs : List Rl} (h : Pl w pp Y a rs) {k : Nat} (hk : Y k) : PT w k := by obtain ⟨h0, l, rb, c, c0, c1, c2, c3, h1, h2⟩ := h; exact h2.ty k hk
theorem Pl.lt {pp : Nat} {Y : Nat → Prop} {a : Bool} {rs : List Rl} (h : Pl w pp Y a rs) : pp < w.heap.size := (h.ty h.inP).lt
theorem PlX.ne_row {pp : Nat} {Y : Nat → Prop} {a : Bool} {rb c : Nat} {c0 c1 c2 c3 : Int} (h : PlX w pp Y a l rb c c0 c1 c2 c3) : rb ≠ pp := by
  rintro rfl; exact absurd (h.row.ty.two h.own.tyB) (by decide)
theorem PlX.ne_b {pp : Nat} {Y : Nat → Prop} {a : Bool} {rb c : Nat} {c0 c1 c2 c3 : Int} (h : PlX w pp Y a l rb c c0 c1 c2 c3) (p : Rb) (hp : p ∈ l) : p.2 ≠ pp ∧ p.2 ≠ rb := by
  have h1 := (h.bks p hp).tyB
  exact ⟨fun e => by rw [e] at h1; exact absurd (h1.two h.own.tyB) (by decide), fun e => by rw [e] at h1; exact absurd (h1.two h.row.ty) (by decide)⟩
end

/-! ### What is asked of a policer -/
def askL (clp : Int) (l : List Rb) : List Rb := l.filter fun p => askB clp p.1
def askV (clp : Int) (l : List Rb) : List (Array Value) := (askL clp l).map fun p => #[.agg (rlc p).toArray]
def cntA (clp : Int) (l : List Rb) (j : Nat) : Nat := (askL clp (l.take j)).length
theorem take_one {α : Type} {l : List α} {j : Nat} {y : α} (hy : l[j]? = some y) : l.take (j + 1) = l.take j ++ [y] := by rw [List.take_add_one, hy]; rfl
theorem cntA_yes {clp : Int} {l : List Rb} {j : Nat} {y : Rb} (hy : l[j]? = some y) (ha : askB clp y.1 = true) : cntA clp l (j + 1) = cntA clp l j + 1 := by
  unfold cntA askL; rw [take_one hy, List.filter_append, List.length_append]; simp [ha]
theorem cntA_no {clp : Int} {l : List Rb} {j : Nat} {y : Rb} (hy : l[j]? = some y) (ha : askB clp y.1 = false) : cntA clp l (j + 1) = cntA clp l j := by
  unfold cntA askL; rw [take_one hy, List.filter_append, List.length_append]; simp [ha]
theorem cntA_len (clp : Int) (l : List Rb) : cntA clp l l.length = (askV clp l).length := by unfold cntA askV; rw [List.take_length, List.length_map]
theorem cntA_le (clp : Int) (l : List Rb) (j : Nat) : cntA clp l j ≤ (askV clp l).length := by
  unfold cntA askV askL; rw [List.length_map]
  exact (List.Sublist.filter _ (List.take_sublist j l)).length_le
theorem askV_get {clp : Int} {l : List Rb} {j : Nat} {y : Rb} (hy : l[j]? = some y) (ha : askB clp y.1 = true) : (askV clp l)[cntA clp l j]? = some #[.agg #[.int .i64 y.1.step, .int .i64 y.1.early, .bool y.1.zero, .bool y.1.tag, .iface 123 (.pointer (some ⟨y.2, 0, none⟩))]] := by
  have h : l = l.take j ++ y :: l.drop (j + 1) := by
    obtain ⟨hlt, hg⟩ := List.getElem?_eq_some_iff.1 hy
    have h1 := List.drop_eq_getElem_cons hlt
    rw [hg] at h1
    rw [← h1, List.take_append_drop]
  unfold askV cntA
  rw [List.getElem?_map]
  have h2 : (askL clp l)[(askL clp (l.take j)).length]? = some y := by
    conv => lhs; arg 1; rw [h]
    unfold askL
    rw [List.filter_append, List.filter_cons_of_pos (p := fun p : Rb => askB clp p.1) ha, List.getElem?_append_right (Nat.le_refl _), Nat.sub_self]
    rfl
  rw [h2]; rfl
theorem askV_mem {clp : Int} {l : List Rb} {k : Nat} {args : Array Value} (h : (askV clp l)[k]? = some args) : ∃ y, (askL clp l)[k]? = some y ∧ y ∈ l ∧ args = #[.agg #[.int .i64 y.1.step, .int .i64 y.1.early, .bool y.1.zero, .bool y.1.tag, .iface 123 (.pointer (some ⟨y.2, 0, none⟩))]] := by
  unfold askV at h
  rw [List.getElem?_map] at h
  obtain ⟨y, hy, rfl⟩ := Option.map_eq_some_iff.1 h
  exact ⟨y, hy, (List.mem_filter.1 (List.mem_of_getElem? hy)).1, rfl⟩
theorem askV_sz (clp : Int) (l : List Rb) : ∀ a ∈ askV clp l, a.size = 1 := by
  intro a ha
  obtain ⟨p, _, rfl⟩ := List.mem_map.1 ha
  rfl
theorem askV_lenL (clp : Int) (l : List Rb) : (askV clp l).length = (askL clp l).length := by unfold askV; rw [List.length_map]
/-- The verdict so far. -/
def verdK (t clp : Int) (l : List Rb) (k : Nat) : Int := ((askL clp l).take k).foldl (fun v p => vS t v p.1) 1
theorem verdK_zero (t clp : Int) (l : List Rb) : verdK t clp l 0 = 1 := rfl
theorem verdK_succ {t clp : Int} {l : List Rb} {k : Nat} {y : Rb} (hy : (askL clp l)[k]? = some y) : verdK t clp l (k + 1) = vS t (verdK t clp l k) y.1 := by
  unfold verdK; rw [take_one hy, List.foldl_append]; rfl
theorem foldl_map' (t : Int) : ∀ (l : List Rb) (v : Int), (l.map (·.1)).foldl (vS t) v = l.foldl (fun v p => vS t v p.1) v
  | [], v => rfl
  | p :: l, v => by simp only [List.map_cons, List.foldl_cons]; exact foldl_map' t l _
theorem filter_map' (clp : Int) : ∀ (l : List Rb), (l.map (·.1)).filter (askB clp) = (askL clp l).map (·.1)
  | [] => rfl
  | p :: l => by
    unfold askL
    simp only [List.map_cons, List.filter_cons]
    have := filter_map' clp l
    unfold askL at this
    split <;> simp [this]
theorem verdK_all (t clp : Int) (l : List Rb) : verdK t clp l (askV clp l).length = verdR t clp (l.map (·.1)) := by
  unfold verdK verdR
  rw [askV_lenL, List.take_length, filter_map', foldl_map']
theorem verdK_three {t clp : Int} {l : List Rb} {k : Nat} (h : verdK t clp l k = 3) : verdR t clp (l.map (·.1)) = 3 := by
  rw [← verdK_all, askV_lenL]
  unfold verdK at h ⊢
  rw [List.take_length]
  rw [← List.take_append_drop k (askL clp l), List.foldl_append, h, ← foldl_map']
  exact fold_three t _
end Go.Proofs.YthchmlidobgkoaaGreat
end

section
/- Layer 20: ledgers. -/
set_option linter.unusedVariables false
set_option linter.unusedSimpArgs false
set_option maxRecDepth 100000
set_option maxHeartbeats 4000000
namespace Go.Proofs.YthchmlidobgkoaaGreat
open Go.Vc Go.RowKit
theorem TAd3aa {P : Prop} (h : P := by intro i hi; first | exact hi | exact ⟨_, by assumption, hi⟩ | (have hi9 : i = lm := hi; (first | show _ ∨ _ | show _ = _); omega)) : P := h
theorem TAd3ab {P : Prop} (h : P := by intro i hi; first | exact hi | exact ⟨_, by assumption, hi⟩ | (have hi9 : i = lg := hi; (first | show _ ∨ _ | show _ = _); omega)) : P := h

theorem lleft_any (lg lm : Nat) (room used : Int) (N : List (Int × Int)) (w : World) (hl : Ld w lg lm room used N) (hu : 0 ≤ used) (hur : used ≤ room) (hr : room ≤ 1152921504606846976)  :
  CV Tryz.prog 29 #[Pt lg 0] w (fun x w1 => x = I6 (room - used) ∧ Step No w w1) := by
 obtain ⟨hd, hm⟩ := hl
 have hS : Step No w w := Step.refl _ _
 refine VCe Tryz.func29 (Vrp (Vs (Vrp (Vf (VC_skip (Vn (Vs (Vd 8 [(3, I6 room), (7, I6 used)] [3, 7] ?_ ?_))))))))
 ·intro w1 hs1
  replace hd := hd.no hs1
  exact ⟨Dl hd, Dl hd, trivial⟩
 intro w1 hs1
 replace hS := Step.trans hS hs1
 refine Ve (Vn (VC_ret (Vr1 (I6 (IntKind.wrap .i64 (room - used))) ?_)))
 exact ⟨congrArg (Value.int .i64) (by first | rfl | exact wrap_i64 _ (by omega) (by omega)), hS⟩

theorem lleft_nil (w : World) :
  CV Tryz.prog 29 #[.pointer none] w (fun x w1 => x = I6 0 ∧ Step No w w1) := by
 have hS : Step No w w := Step.refl _ _
 refine VCe Tryz.func29 (Vrp (Vs (Vrp (Vt (Vrp (VC_ret (VQ_then_ret (Vr1 (I6 0) ?_))))))))
 exact ⟨rfl, hS⟩

theorem lused_any (lg lm : Nat) (room used : Int) (N : List (Int × Int)) (w : World) (hl : Ld w lg lm room used N) (hu : 0 ≤ used) (hur : used ≤ room) (hr : room ≤ 1152921504606846976)  :
  CV Tryz.prog 50 #[Pt lg 0] w (fun x w1 => x = I6 (used) ∧ Step No w w1) := by
 obtain ⟨hd, hm⟩ := hl
 have hS : Step No w w := Step.refl _ _
 refine VCe Tryz.func50 (Vrp (Vs (Vrp (Vf (VC_skip (Vn (Vs (Vr (Vl 3 hd (Ve (Vn (VC_ret (Vr1 (I6 used) ?_)))))))))))))
 exact ⟨congrArg (Value.int .i64) (by first | rfl | exact wrap_i64 _ (by omega) (by omega)), hS⟩

theorem lused_nil (w : World) :
  CV Tryz.prog 50 #[.pointer none] w (fun x w1 => x = I6 0 ∧ Step No w w1) := by
 have hS : Step No w w := Step.refl _ _
 refine VCe Tryz.func50 (Vrp (Vs (Vrp (Vt (Vrp (VC_ret (VQ_then_ret (Vr1 (I6 0) ?_))))))))
 exact ⟨rfl, hS⟩

theorem lbook_any (lg lm : Nat) (room used : Int) (N : List (Int × Int)) (id need : Int) (w : World) (hl : Ld w lg lm room used N) (hu : 0 ≤ used) (hur : used ≤ room) (hr : room ≤ 1152921504606846976) (hn : getM N id = none) (h0 : 0 ≤ need) (hle : need ≤ room - used)  :
  CV Tryz.prog 36 #[Pt lg 0, I6 id, I6 need] w (fun x w1 => x = I6 0 ∧ Ld w1 lg lm room (used + need) (putM N id need) ∧ Step (fun k => k = lg ∨ k = lm) w w1) := by
 obtain ⟨hd, hm⟩ := hl
 have hne : lg ≠ lm := Ld.ne ⟨hd, hm⟩
 have hS : Step (fun k => k = lg ∨ k = lm) w w := Step.refl _ _
 refine VCe Tryz.func36 (Vrp (Vs (Vrp (Vf (VC_skip (Vn (Vs (Vr (Vl 3 hd (Vp 5 (VL_lookup (ek := ei) (u := ui) (d := 17) (m := lm) (kt := 3) (z := I6 0) (k := id) (ok := true) (by kernel_rfl) (by kernel_rfl) keyTi hm (I6 ((getM N id).getD 0)) (by cases getM N id <;> rfl) (Ve (Vn (Vs (VC_block (Vs (Vr (Ve ?_))))))))))))))))))
 refine Vn (Viz (b := decide (need < 0)) (decide_eq_false (by omega)) (Vrp (Viz (b := (getM N id).isSome) (by rw [hn]; rfl) (Vs (Vr (Vp 2 ?_))))))
 refine Vc 2 Tryz.call29 (lleft_any lg lm room used N _ ⟨hd, hm⟩ hu hur hr) ?_
 rintro _ w1 ⟨rfl, hc1⟩
 replace hS := Step.trans hS (Step.weak hc1)
 replace hd := hd.no hc1
 replace hm := MapL.no hm hc1
 refine Ve (Vn (Viz (b := decide (need > (room - used))) (decide_eq_false (by omega)) (VC_skip (VQ_block_normal (Vn (Vs (Vr (Vl 3 hd (Vp 6 (VL_upd (ek := ei) (u := ui) (m := lm) (kt := 3) (k := id) (v := need) (by kernel_rfl) (by kernel_rfl) keyTi hm ?_))))))))))
 intro w2 hw1
 replace hS := Step.trans hS (Step.mono hw1.step TAd3aa)
 replace hd := hd.step hw1.step (show ¬ lg = lm by omega)
 have hM1 := hw1.map
 refine Ve (Vn (Vs (Vr (Vl 3 hd (Vst 8 (o := 1) [I6 (IntKind.wrap .i64 (used + need))] hd #[I6 room, I6 (IntKind.wrap .i64 (used + need)), .map (some lm)] ?_)))))
 intro w3 hw2
 replace hS := Step.trans hS (Step.mono hw2.step TAd3ab)
 replace hM1 := MapL.step hM1 hw2.step (show ¬ lm = lg by omega)
 have ho1 := hw2.own
 refine Ve (Vn (Vrp (VC_ret (Vr1 (I6 0) ?_))))
 exact ⟨rfl, ⟨Own.cast ho1 (by rw [show IntKind.wrap .i64 (used + need) = used + need from by first | rfl | (rw [wrap_i64 _ (by omega) (by omega)]) | (rw [wrap_i64 (need - was) (by omega) (by omega), wrap_i64 _ (by omega) (by omega)])]), hM1⟩, hS⟩

theorem lget_any (lg lm : Nat) (room used : Int) (N : List (Int × Int)) (id : Int) (w : World) (hl : Ld w lg lm room used N) :
  CV Tryz.prog 63 #[Pt lg 0, I6 id] w (fun x w1 => x = .tuple #[I6 ((getM N id).getD 0), Bo (getM N id).isSome] ∧ Step No w w1) := by
 obtain ⟨hd, hm⟩ := hl
 have hS : Step No w w := Step.refl _ _
 refine VCe Tryz.func63 (Vrp (Vs (Vrp (Vf (VC_skip (Vn (Vs (Vr (Vl 3 hd (Vp 5 (VL_lookup (ek := ei) (u := ui) (d := 16) (m := lm) (kt := 3) (z := I6 0) (k := id) (ok := true) (by kernel_rfl) (by kernel_rfl) keyTi hm (I6 ((getM N id).getD 0)) (by cases getM N id <;> rfl) (Ve (Vn (Vrp (VC_ret ?_)))))))))))))))
 refine Vr2 (I6 ((getM N id).getD 0)) (Bo ((getM N id).isSome)) ?_
 exact ⟨rfl, hS⟩

theorem lfree_any (lg lm : Nat) (room used : Int) (N : List (Int × Int)) (id was : Int) (w : World) (hl : Ld w lg lm room used N) (hu : 0 ≤ used) (hur : used ≤ room) (hr : room ≤ 1152921504606846976) (hn : getM N id = some was) (h0 : 0 ≤ was) (hw : was ≤ used)  :
  CV Tryz.prog 44 #[Pt lg 0, I6 id] w (fun x w1 => x = .tuple #[I6 was, Bo true] ∧ Ld w1 lg lm room (used - was) (delM N id) ∧ Step (fun k => k = lg ∨ k = lm) w w1) := by
 obtain ⟨hd, hm⟩ := hl
 have hne : lg ≠ lm := Ld.ne ⟨hd, hm⟩
 have hS : Step (fun k => k = lg ∨ k = lm) w w := Step.refl _ _
 refine VCe Tryz.func44 (Vrp (Vs (Vr (Vp 2 ?_))))
 refine Vc 2 Tryz.call63 ((lget_any lg lm room used N id _ ⟨hd, hm⟩).mono (fun x w1 h9 => ⟨h9.1.trans (by rw [hn]; rfl), h9.2⟩ : ∀ x w1, _ → x = .tuple #[I6 was, Bo true] ∧ Step No _ w1)) ?_
 rintro _ w1 ⟨rfl, hc1⟩
 replace hS := Step.trans hS (Step.weak hc1)
 replace hd := hd.no hc1
 replace hm := MapL.no hm hc1
 refine Ve (Vn (Vs (Vrp (Vt (Vs (Vr (Vl 3 hd (Vp 5 (VL_del (ek := ei) (u := ui) (m := lm) (kt := 3) (k := id) (by kernel_rfl) (by kernel_rfl) keyTi hm ?_)))))))))
 intro w2 hw1
 replace hS := Step.trans hS (Step.mono hw1.step TAd3aa)
 replace hd := hd.step hw1.step (show ¬ lg = lm by omega)
 have hM1 := hw1.map
 refine Ve (Vn (Vr (Vl 3 hd (Vst 8 (o := 1) [I6 (IntKind.wrap .i64 (used - was))] hd #[I6 room, I6 (IntKind.wrap .i64 (used - was)), .map (some lm)] ?_))))
 intro w3 hw2
 replace hS := Step.trans hS (Step.mono hw2.step TAd3ab)
 replace hM1 := MapL.step hM1 hw2.step (show ¬ lm = lg by omega)
 have ho1 := hw2.own
 refine Ve (Vn (Vrp (VC_ret (Vr2 (I6 was) (Bo true) ?_))))
 exact ⟨rfl, ⟨Own.cast ho1 (by rw [show IntKind.wrap .i64 (used - was) = used - was from by first | rfl | (rw [wrap_i64 _ (by omega) (by omega)]) | (rw [wrap_i64 (need - was) (by omega) (by omega), wrap_i64 _ (by omega) (by omega)])]), hM1⟩, hS⟩

theorem lchange_any (lg lm : Nat) (room used : Int) (N : List (Int × Int)) (id need was : Int) (w : World) (hl : Ld w lg lm room used N) (hu : 0 ≤ used) (hur : used ≤ room) (hr : room ≤ 1152921504606846976) (hn : getM N id = some was) (h0 : 0 ≤ need) (h1 : need ≤ 1152930000000000000) (hw0 : 0 ≤ was) (hw : was ≤ used)  :
  CV Tryz.prog 40 #[Pt lg 0, I6 id, I6 need] w (fun x w1 => x = I6 (if need > room - used + was then 9 else 0) ∧ Ld w1 lg lm room (if need > room - used + was then used else used + (need - was)) (if need > room - used + was then N else putM N id need) ∧ Step (fun k => k = lg ∨ k = lm) w w1) := by
 obtain ⟨hd, hm⟩ := hl
 have hne : lg ≠ lm := Ld.ne ⟨hd, hm⟩
 have hS : Step (fun k => k = lg ∨ k = lm) w w := Step.refl _ _
 refine VCe Tryz.func40 (Vrp (Vs (Vrp (Vf (VC_skip (Vn (Vs (Vr (Vl 3 hd (Vp 5 (VL_lookup (ek := ei) (u := ui) (d := 17) (m := lm) (kt := 3) (z := I6 0) (k := id) (ok := true) (by kernel_rfl) (by kernel_rfl) keyTi hm (I6 was) (by rw [hn]; rfl) (Ve (Vn (Vs (VC_block (Vs (Vr (Ve ?_))))))))))))))))))
 refine Vn (Viz (b := decide (need < 0)) (decide_eq_false (by omega)) (Vrp (Viz (b := !((getM N id).isSome)) (by rw [hn]; rfl) (Vs (Vr (Vp 2 ?_))))))
 refine Vc 2 Tryz.call29 (lleft_any lg lm room used N _ ⟨hd, hm⟩ hu hur hr) ?_
 rintro _ w1 ⟨rfl, hc1⟩
 replace hS := Step.trans hS (Step.weak hc1)
 replace hd := hd.no hc1
 replace hm := MapL.no hm hc1
 refine Vp 5 (Vq 31 (I6 (IntKind.wrap .i64 ((room - used) + was))) (I6 (room - used + was)) (by rw [wrap_i64 _ (by omega) (by omega)]) (Ve (Vn (Vid (need > (room - used + was)) (fun h1 => ?_) (fun h1 => ?_)))))
 ·refine Vrp (VC_ret (VQ_block_ret (VQ_then_ret (Vr1 (I6 9) ?_))))
  have h9 : need > room - used + was := by assumption
  rw [if_pos h9, if_pos h9, if_pos h9]
  exact ⟨rfl, ⟨hd, hm⟩, hS⟩
 ·refine VC_skip (VQ_block_normal (Vn (Vs (Vr (Vl 3 hd (Vp 6 (VL_upd (ek := ei) (u := ui) (m := lm) (kt := 3) (k := id) (v := need) (by kernel_rfl) (by kernel_rfl) keyTi hm ?_)))))))
  intro w2 hw1
  replace hS := Step.trans hS (Step.mono hw1.step TAd3aa)
  replace hd := hd.step hw1.step (show ¬ lg = lm by omega)
  have hM1 := hw1.map
  refine Ve (Vn (Vs (Vr (Vl 3 hd (Vst 10 (o := 1) [I6 (IntKind.wrap .i64 (used + (IntKind.wrap .i64 (need - was))))] hd #[I6 room, I6 (IntKind.wrap .i64 (used + (IntKind.wrap .i64 (need - was)))), .map (some lm)] ?_)))))
  intro w3 hw2
  replace hS := Step.trans hS (Step.mono hw2.step TAd3ab)
  replace hM1 := MapL.step hM1 hw2.step (show ¬ lm = lg by omega)
  have ho1 := hw2.own
  refine Ve (Vn (Vrp (VC_ret (Vr1 (I6 0) ?_))))
  have h9 : ¬ need > room - used + was := by assumption
  rw [if_neg h9, if_neg h9, if_neg h9]
  exact ⟨rfl, ⟨Own.cast ho1 (by rw [show IntKind.wrap .i64 (used + (IntKind.wrap .i64 (need - was))) = used + (need - was) from by first | rfl | (rw [wrap_i64 _ (by omega) (by omega)]) | (rw [wrap_i64 (need - was) (by omega) (by omega), wrap_i64 _ (by omega) (by omega)])]), hM1⟩, hS⟩

theorem lchange_no (lg lm : Nat) (room used : Int) (N : List (Int × Int)) (id need was : Int) (w : World) (hl : Ld w lg lm room used N) (hu : 0 ≤ used) (hur : used ≤ room) (hr : room ≤ 1152921504606846976) (hn : getM N id = some was) (h0 : 0 ≤ need) (h1 : need ≤ 1152930000000000000) (hw0 : 0 ≤ was) (hw : was ≤ used) (hb : need > room - used + was)  :
  CV Tryz.prog 40 #[Pt lg 0, I6 id, I6 need] w (fun x w1 => x = I6 9 ∧ Step No w w1) := by
 obtain ⟨hd, hm⟩ := hl
 have hS : Step No w w := Step.refl _ _
 refine VCe Tryz.func40 (Vrp (Vs (Vrp (Vf (VC_skip (Vn (Vs (Vr (Vl 3 hd (Vp 5 (VL_lookup (ek := ei) (u := ui) (d := 17) (m := lm) (kt := 3) (z := I6 0) (k := id) (ok := true) (by kernel_rfl) (by kernel_rfl) keyTi hm (I6 was) (by rw [hn]; rfl) (Ve (Vn (Vs (VC_block (Vs (Vr (Ve ?_))))))))))))))))))
 refine Vn (Viz (b := decide (need < 0)) (decide_eq_false (by omega)) (Vrp (Viz (b := !((getM N id).isSome)) (by rw [hn]; rfl) (Vs (Vr (Vp 2 ?_))))))
 refine Vc 2 Tryz.call29 (lleft_any lg lm room used N _ ⟨hd, hm⟩ hu hur hr) ?_
 rintro _ w1 ⟨rfl, hc1⟩
 replace hS := Step.trans hS hc1
 refine Vp 5 (Vq 31 (I6 (IntKind.wrap .i64 ((room - used) + was))) (I6 (room - used + was)) (by rw [wrap_i64 _ (by omega) (by omega)]) (Ve (Vn (Vit (b := decide (need > (room - used + was))) (decide_eq_true (by omega)) (Vrp (VC_ret (VQ_block_ret (VQ_then_ret (Vr1 (I6 9) ?_)))))))))
 exact ⟨rfl, hS⟩

theorem lchange_yes {lg lm : Nat} {room used : Int} {N : List (Int × Int)} {w : World} (id need was : Int) (hl : Ld w lg lm room used N) (hu : 0 ≤ used) (hur : used ≤ room) (hr : room ≤ 1152921504606846976) (hn : getM N id = some was) (h0 : 0 ≤ need) (h1 : need ≤ 1152930000000000000) (hw0 : 0 ≤ was) (hw : was ≤ used) (hb : need ≤ room - used + was) : CV Tryz.prog 40 #[.pointer (some ⟨lg, 0, none⟩), .int .i64 id, .int .i64 need] w fun x w1 => x = .int .i64 0 ∧ Ld w1 lg lm room (used + (need - was)) (putM N id need) ∧ Step (fun k => k = lg ∨ k = lm) w w1 := by
  have h9 : ¬ need > room - used + was := by omega
  have h8 := lchange_any lg lm room used N id need was w hl hu hur hr hn h0 h1 hw0 hw
  rw [if_neg h9, if_neg h9, if_neg h9] at h8
  exact h8
theorem lnew_any (r : Int) (w : World) :
  CV Tryz.prog 23 #[I6 r] w (fun x w1 => ∃ lg lm, x = Pt lg 0 ∧ w.heap.size ≤ lg ∧ w.heap.size ≤ lm ∧ Ld w1 lg lm (imax 0 (imin r 1152921504606846976)) 0 [] ∧ Step No w w1) := by
 have hS : Step No w w := Step.refl _ _
 refine VCe Tryz.func23 (Vrp (Vs (Vr (Vp 3 (VL_mkMap (d := 6) (by kernel_rfl) (by kernel_rfl) ?_)))))
 intro mp1 w1 hn1
 replace hS := Step.trans hS (hn1.step No)
 have hM1 := New.map hn1 ei ui
 have hzhn1 := hn1.size
 have hqhn1 := hn1.eqb
 refine Vp 5 ?_
 refine Vx 5 85 #[I6 (imax 0 (imin r 1152921504606846976)), I6 0, .map (some mp1)] ?_
 intro b1 w2 hn2
 replace hS := Step.trans hS (hn2.step No)
 replace hM1 := MapL.no hM1 (hn2.step No)
 have ho1 := hn2.own
 have hzhn2 := hn2.size
 have hqhn2 := hn2.eqb
 refine Ve (Vn (VC_ret (Vr1 (Pt b1 0) ?_)))
 exact ⟨b1, mp1, rfl, by omega, by omega, ⟨ho1, hM1⟩, hS⟩

end Go.Proofs.YthchmlidobgkoaaGreat
end

section
/- The calculus' twentieth part: loops in which marks are laid: each round may leave one more. -/
set_option linter.unusedVariables false
set_option linter.unusedSimpArgs false
namespace Go.Vc
open Go.RowKit
section
variable {r : Option Nat} {n : Nat} {ds : List Deferred} {P : Program} {Q : Exit → Act → World → Prop} {l : List (Nat × Value)} {w : World} {c : Code}
end
/-- Marks that lie between two bounds. -/
def MarksI (w : World) (lo hi : Nat) (Ds : List Nat) : Prop := Marks Ds w ∧ ∀ D ∈ Ds, lo ≤ D ∧ D < hi
theorem Marks.dfr {w : World} : ∀ {Ds : List Nat}, Marks Ds w → ∀ D ∈ Ds, Dfr w D
  | [], _, D, h => by simp at h
  | D0 :: Ds, h, D, hD => by
    rcases List.mem_cons.1 hD with rfl | hD
    · exact h.1
    · exact Marks.dfr h.2.2 D hD
section
variable {F : Nat → Prop} {w w' : World} {lo hi hi' D : Nat} {Ds : List Nat}
theorem MarksI.nil (w : World) (lo hi : Nat) : MarksI w lo hi [] := ⟨trivial, fun D h => by simp at h⟩
theorem MarksI.keep (h : MarksI w lo hi Ds) (hs : Step F w w') (hF : ∀ D, Dfr w D → lo ≤ D → D < hi → ¬ F D) : MarksI w' lo hi Ds :=
  ⟨h.1.step hs fun D hD => hF D (h.1.dfr D hD) (h.2 D hD).1 (h.2 D hD).2, h.2⟩
theorem MarksI.no (h : MarksI w lo hi Ds) (hs : Step No w w') : MarksI w' lo hi Ds := h.keep hs fun _ _ _ _ => id
theorem MarksI.ne {b : Nat} {cs : Array Value} {e : TypeId} (hD : Dfr w D) (ho : Own w b cs e) : D ≠ b := by
  rintro rfl
  unfold Dfr at hD
  unfold Own at ho
  rw [hD] at ho
  cases ho
theorem MarksI.own {b : Nat} {cs : Array Value} {e : TypeId} (h : MarksI w lo hi Ds) (ho : Own w b cs e) (hs : Step (Just b) w w') : MarksI w' lo hi Ds := h.keep hs fun D hD _ _ (e : D = b) => MarksI.ne hD ho e
theorem MarksI.mark {L : Nat} (h : MarksI w lo hi Ds) (hL : hi ≤ L) (hs : Step (Just L) w w') : MarksI w' lo hi Ds := h.keep hs fun D _ _ h2 (e : D = L) => by omega
theorem MarksI.mono (h : MarksI w lo hi Ds) (hh : hi ≤ hi') : MarksI w lo hi' Ds := ⟨h.1, fun D hD => ⟨(h.2 D hD).1, by have := (h.2 D hD).2; omega⟩⟩
theorem MarksI.cons (h : MarksI w lo hi Ds) (hD : Dfr w D) (hlo : lo ≤ D) (hhi : hi ≤ D) : MarksI w lo (D + 1) (D :: Ds) :=
  ⟨⟨hD, fun hm => by have := (h.2 D hm).2; omega, h.1⟩, fun E hE => by
    rcases List.mem_cons.1 hE with rfl | hE
    · exact ⟨hlo, by omega⟩
    · have := h.2 E hE; exact ⟨this.1, by omega⟩⟩
end
end Go.Vc
end

section
/- Layer 20: what a policer asks. -/
set_option linter.unusedVariables false
set_option linter.unusedSimpArgs false
set_option maxRecDepth 100000
set_option maxHeartbeats 4000000
namespace Go.Proofs.YthchmlidobgkoaaGreat
open Go.Vc Go.RowKit
theorem TAd4aa {P : Prop} (h : P := by have h9 := cntA_le clp l (j + 1); rw [cntA_yes hrq1 (by unfold askB; simp_all)] at h9; exact h9) : P := h
theorem TAd4ab {P : Prop} (h : P := by rw [cntA_yes hrq1 (by unfold askB; simp_all)]; exact hJn _ _ _ _ hJ hSJ) : P := h
theorem TAd4ac {P : Prop} (h : P := by rw [wrap_i64 _ (by omega) (by omega)]; omega) : P := h

theorem asked_any (pp : Nat) (clp : Int) (w : World) :
  CV Tryz.prog 65 #[Pt pp 0, I6 clp] w (fun x w1 => ∃ B1 B2, x = .func (.func 75) #[] #[Pt B1 0, Pt B2 0] ∧ w.heap.size ≤ B1 ∧ w.heap.size ≤ B2 ∧ Own w1 B1 #[Pt pp 0] 71 ∧ Own w1 B2 #[I6 clp] 3 ∧ Step No w w1) := by
 have hS : Step No w w := Step.refl _ _
 refine VCe Tryz.func65 (Vs (Vr ?_))
 refine Vx 0 71 #[Pt pp 0] ?_
 intro b1 w1 hn1
 replace hS := Step.trans hS (hn1.step No)
 have ho1 := hn1.own
 have hzhn1 := hn1.size
 have hqhn1 := hn1.eqb
 refine Vx 1 3 #[I6 clp] ?_
 intro b2 w2 hn2
 replace hS := Step.trans hS (hn2.step No)
 replace ho1 := ho1.no (hn2.step No)
 have ho2 := hn2.own
 have hzhn2 := hn2.size
 have hqhn2 := hn2.eqb
 refine Ve (Vn (Vrp (VC_ret (Vr1 (.func (.func 75) #[] #[Pt b1 0, Pt b2 0]) ?_))))
 exact ⟨b1, b2, rfl, by omega, by omega, ho1, ho2, hS⟩

theorem asked1_any (L : Nat) (B1 B2 pp rb c : Nat) (a : Bool) (clp c0 c1 c2 c3 : Int) (l : List Rb) (hlen : l.length < 1152921504606846976) (w : World) (J Jx : Nat → Nat → World → Prop) (M : Nat) (hJn : ∀ M k W W', J M k W → Step No W W' → J M k W') (hrd : ∀ M k W, J M k W → Own W B1 #[Pt pp 0] 71 ∧ Own W B2 #[I6 clp] 3 ∧ Own W pp (polArr a rb l.length c c0 c1 c2 c3) 112 ∧ Sl2 W rb (rb + 1) (some ⟨rb, 0, none⟩) (flat rlc l)) (hJ : J M 0 w) (hrl : rb < w.heap.size) (hy : ∀ k W args, M ≤ W.heap.size → (askV clp l)[k]? = some args → J M k W → YV Tryz.prog L args W fun v W' => Step (fun i => i < w.heap.size ∨ M ≤ i) W W' ∧ (v = Bo true ∧ J M (k + 1) W' ∨ v = Bo false ∧ Jx M (k + 1) W')) (hM : M ≤ w.heap.size) :
  CV Tryz.prog 75 #[.func (.yield L) #[] #[], Pt B1 0, Pt B2 0] w (fun _ w1 => J M (askV clp l).length w1 ∨ ∃ k, k ≤ (askV clp l).length ∧ Jx M k w1) := by
 obtain ⟨hB1, hB2, hpp, hrow⟩ := hrd _ _ _ hJ
 have hMz := hM
 have hSJ : Step No w w := Step.refl _ _
 refine VCe Tryz.func75 (Vs (Vr (Vl 0 hB1 (Vl 3 hpp (Ve (Vn (VC_block (VC_loop (σ := Nat) (fun σs => [(0, .func (.yield L) #[] #[]), (2, Pt B2 0), (9, .slice (some ⟨rb, 0, none⟩) l.length c), (10, I6 ((l.length : Nat) : Int)), (11, I6 ((σs : Nat) : Int))]) (fun σs wr => σs ≤ l.length ∧ J M (cntA clp l σs) wr ∧ M ≤ wr.heap.size ∧ rb < wr.heap.size ∧ Own wr B1 #[Pt pp 0] 71 ∧ Own wr B2 #[I6 clp] 3 ∧ Own wr pp (polArr a rb l.length c c0 c1 c2 c3) 112 ∧ Sl2 wr rb (rb + 1) (some ⟨rb, 0, none⟩) (flat rlc l)) (fun σs wr => l.length - σs) 0 Su ?_ ?_))))))))
 ·exact ⟨Nat.zero_le _, hJn _ _ _ _ hJ hSJ, hMz, hrl, hB1, hB2, hpp, hrow⟩
 rintro j wr ⟨hj0, hJ, hMz, hrl, hB1, hB2, hpp, hrow⟩
 try dsimp only at hj0 hJ hMz hrl hB1 hB2 hpp hrow ⊢
 have hSJ : Step No wr wr := Step.refl _ _
 refine Vrp (Vs (Vid (((j : Nat) : Int) < ((l.length : Nat) : Int)) (fun h1 => ?_) (fun h1 => ?_)))
 ·refine VC_skip (Vn (Vs (VC_block (Vs (Vr (VL_index (d := 13) (b := rb) (o := 0) (len := l.length) (sz := 5) (m := ((j : Nat) : Int)) (by kernel_rfl) (by kernel_rfl) j (by rfl) (by omega) (j * 5) (by omega) ?_))))))
  obtain ⟨rq1, hrq1⟩ : ∃ x, l[j]? = some x := ⟨_, List.getElem?_eq_getElem (by have hq9 : l.length = l.length := rfl; omega)⟩
  refine Vla 1 (t := 108) (a := ⟨rb, j * 5, none⟩) (v := .agg #[I6 rq1.1.step, I6 rq1.1.early, Bo rq1.1.zero, Bo rq1.1.tag, .iface 123 (Pt rq1.2 0)]) (Sl.flatAgg (sz := 5) (Sl2.sl hrow) rlc_len hrq1 0 5 (by kernel_rfl) (by decide) _ (by first | rfl | omega)) ?_
  have hzl1 := hB1.lt
  have hzl2 := hB2.lt
  have hzl3 := hpp.lt
  have hzk2 := hrl
  refine Vx 2 108 #[I6 0, I6 0, Bo false, Bo false, .nilIface] ?_
  intro b1 w1 hn1
  replace hSJ := Step.trans hSJ (hn1.step No)
  replace hMz := Nat.le_trans hMz (hn1.step No).size
  replace hB1 := hB1.no (hn1.step No)
  replace hB2 := hB2.no (hn1.step No)
  replace hpp := hpp.no (hn1.step No)
  replace hrow := hrow.step (hn1.step No) (fun k hk1 hk2 hF => hF)
  replace hrl := Nat.lt_of_lt_of_le hrl (hn1.step No).size
  have ho1 := hn1.own
  have hzhn1 := hn1.size
  have hqhn1 := hn1.eqb
  refine Vst 3 (o := 0) [I6 rq1.1.step, I6 rq1.1.early, Bo rq1.1.zero, Bo rq1.1.tag, .iface 123 (Pt rq1.2 0)] ho1 #[I6 rq1.1.step, I6 rq1.1.early, Bo rq1.1.zero, Bo rq1.1.tag, .iface 123 (Pt rq1.2 0)] ?_
  intro w2 hw1
  replace hSJ := Step.transNew hSJ hw1.step (fun _ _ _ => by omega)
  replace hMz := Nat.le_trans hMz (hw1.step).size
  replace hB1 := hB1.step hw1.step (show ¬ B1 = b1 by omega)
  replace hB2 := hB2.step hw1.step (show ¬ B2 = b1 by omega)
  replace hpp := hpp.step hw1.step (show ¬ pp = b1 by omega)
  replace hrow := hrow.step hw1.step (fun k hk1 hk2 (hF : k = b1) => by omega)
  replace hrl := Nat.lt_of_lt_of_le hrl (hw1.step).size
  have ho2 := hw1.own
  refine Ve (Vn (Vs (Vr (Vl 2 ho2 (VL_pure 5 [0, 2, 9, 10, 11, 5, 19] [(0, .func (.yield L) #[] #[]), (2, Pt B2 0), (9, .slice (some ⟨rb, 0, none⟩) l.length c), (10, I6 ((l.length : Nat) : Int)), (11, I6 ((j : Nat) : Int)), (5, Pt b1 0), (19, Bo (!rq1.1.zero))] (by kernel_rfl) rfl (VL_bool rq1.1.zero (fun bV => [(0, .func (.yield L) #[] #[]), (2, Pt B2 0), (9, .slice (some ⟨rb, 0, none⟩) l.length c), (10, I6 ((l.length : Nat) : Int)), (11, I6 ((j : Nat) : Int)), (5, Pt b1 0), (19, Bo (!bV))]) rfl (fun hg1 => ?_) (fun hg1 => ?_)))))))
  ·refine Vl 5 hB2 (VL_pure 9 [0, 2, 9, 10, 11, 5, 23] [(0, .func (.yield L) #[] #[]), (2, Pt B2 0), (9, .slice (some ⟨rb, 0, none⟩) l.length c), (10, I6 ((l.length : Nat) : Int)), (11, I6 ((j : Nat) : Int)), (5, Pt b1 0), (23, Bo (clp == 0))] (by kernel_rfl) rfl (VL_beq clp 0 (fun bV => [(0, .func (.yield L) #[] #[]), (2, Pt B2 0), (9, .slice (some ⟨rb, 0, none⟩) l.length c), (10, I6 ((l.length : Nat) : Int)), (11, I6 ((j : Nat) : Int)), (5, Pt b1 0), (23, Bo bV)]) rfl (fun hg2 => ?_) (fun hg2 => ?_)))
   ·refine Vl 10 ho2 ?_
    refine VL_yield (d := 26) (L := L) (args := #[.agg #[I6 rq1.1.step, I6 rq1.1.early, Bo rq1.1.zero, Bo rq1.1.tag, .iface 123 (Pt rq1.2 0)]]) (by kernel_rfl) (by kernel_rfl) (by kernel_rfl) (hy (cntA clp l j) _ _ hMz (askV_get hrq1 (by unfold askB; simp_all)) (hJn _ _ _ _ hJ hSJ)) ?_
    rintro _ w3 ⟨hshy1, (⟨rfl, hy1⟩ | ⟨rfl, hy1⟩)⟩
    ·replace hMz := Nat.le_trans hMz hshy1.size
     replace hrl := Nat.lt_of_lt_of_le hrl hshy1.size
     have hJ := hy1
     have hSJ : Step No w3 w3 := Step.refl _ _
     obtain ⟨hB1, hB2, hpp, hrow⟩ := hrd _ _ _ hJ
     refine Ve (Vn (Vf (VC_skip (VQ_block_normal (Vn (Vr (Vp 1 ?_)))))))
     have he1 : IntKind.wrap .i64 (((j : Nat) : Int) + 1) = ((j + 1 : Nat) : Int) := TAd4ac
     refine Vq 29 (I6 (IntKind.wrap .i64 (((j : Nat) : Int) + 1))) (I6 ((j + 1 : Nat) : Int)) (by rw [he1]) (Ve (VQ_again (j + 1) Su ?_ ?_))
     ·exact ⟨by omega, TAd4ab, hMz, hrl, hB1, hB2, hpp, hrow⟩
     ·(try dsimp only); omega
    ·refine Ve (Vn (Vt (VC_ret (VQ_block_ret (VQ_then_ret (VQ_then_ret (VQ_block_ret (Vr0 ?_))))))))
     exact .inr ⟨_, TAd4aa, hy1⟩
   ·refine Ve (Vn (Vf (VC_skip (VQ_block_normal (Vn (Vr (Vp 1 ?_)))))))
    have he2 : IntKind.wrap .i64 (((j : Nat) : Int) + 1) = ((j + 1 : Nat) : Int) := TAd4ac
    refine Vq 29 (I6 (IntKind.wrap .i64 (((j : Nat) : Int) + 1))) (I6 ((j + 1 : Nat) : Int)) (by rw [he2]) (Ve (VQ_again (j + 1) Su ?_ ?_))
    ·exact ⟨by omega, (by rw [cntA_no hrq1 (by unfold askB; simp_all)]; exact hJn _ _ _ _ hJ hSJ), hMz, hrl, hB1, hB2, hpp, hrow⟩
    ·(try dsimp only); omega
  ·refine Vl 10 ho2 ?_
   refine VL_yield (d := 26) (L := L) (args := #[.agg #[I6 rq1.1.step, I6 rq1.1.early, Bo rq1.1.zero, Bo rq1.1.tag, .iface 123 (Pt rq1.2 0)]]) (by kernel_rfl) (by kernel_rfl) (by kernel_rfl) (hy (cntA clp l j) _ _ hMz (askV_get hrq1 (by unfold askB; simp_all)) (hJn _ _ _ _ hJ hSJ)) ?_
   rintro _ w4 ⟨hshy2, (⟨rfl, hy2⟩ | ⟨rfl, hy2⟩)⟩
   ·replace hMz := Nat.le_trans hMz hshy2.size
    replace hrl := Nat.lt_of_lt_of_le hrl hshy2.size
    have hJ := hy2
    have hSJ : Step No w4 w4 := Step.refl _ _
    obtain ⟨hB1, hB2, hpp, hrow⟩ := hrd _ _ _ hJ
    refine Ve (Vn (Vf (VC_skip (VQ_block_normal (Vn (Vr (Vp 1 ?_)))))))
    have he3 : IntKind.wrap .i64 (((j : Nat) : Int) + 1) = ((j + 1 : Nat) : Int) := TAd4ac
    refine Vq 29 (I6 (IntKind.wrap .i64 (((j : Nat) : Int) + 1))) (I6 ((j + 1 : Nat) : Int)) (by rw [he3]) (Ve (VQ_again (j + 1) Su ?_ ?_))
    ·exact ⟨by omega, TAd4ab, hMz, hrl, hB1, hB2, hpp, hrow⟩
    ·(try dsimp only); omega
   ·refine Ve (Vn (Vt (VC_ret (VQ_block_ret (VQ_then_ret (VQ_then_ret (VQ_block_ret (Vr0 ?_))))))))
    exact .inr ⟨_, TAd4aa, hy2⟩
 ·refine VC_exit (VQ_then_exit (VQ_then_exit (VQ_block_hit (Vr0 ?_))))
  obtain rfl : j = l.length := by omega
  exact .inl (by rw [← cntA_len]; exact hJn _ _ _ _ hJ hSJ)

theorem asked_iter (B1 B2 pp rb c : Nat) (a : Bool) (clp c0 c1 c2 c3 : Int) (l : List Rb) (hlen : l.length < 1152921504606846976) :
    IterC Tryz.prog 75 #[.pointer (some ⟨B1, 0, none⟩), .pointer (some ⟨B2, 0, none⟩)] (askV clp l) (fun _ W => (Own W B1 #[.pointer (some ⟨pp, 0, none⟩)] 71 ∧ Own W B2 #[.int .i64 clp] 3 ∧ Own W pp (polArr a rb l.length c c0 c1 c2 c3) 112 ∧ Sl2 W rb (rb + 1) (some ⟨rb, 0, none⟩) (flat rlc l)) ∧ rb < W.heap.size) := by
  intro L W0 J Jx hJn hJxn hrd hrd0 h0 hy
  refine CV.mono (asked1_any L B1 B2 pp rb c a clp c0 c1 c2 c3 l hlen W0 J Jx W0.heap.size hJn (fun M k W h => (hrd M k W h).1) (h0 _ _ (Nat.le_refl _) (Nat.le_refl _) (Step.refl _ _)) hrd0.2 (fun k W args hM hx hj => hy _ k W args (Nat.le_refl _) hM hx hj) (Nat.le_refl _)) fun v W' hh => ⟨_, Nat.le_refl _, hh⟩
end Go.Proofs.YthchmlidobgkoaaGreat
end

section
/- Layer 20: a verdict. -/
set_option linter.unusedVariables false
set_option linter.unusedSimpArgs false
set_option maxRecDepth 100000
set_option maxHeartbeats 4000000
namespace Go.Proofs.YthchmlidobgkoaaGreat
open Go.Vc Go.RowKit
theorem TAd5aa {P : Prop} (h : P := by intro i hi; first | exact hi | exact ⟨_, by assumption, hi⟩ | (have hi9 : i = b2 := hi; (first | show _ ∨ _ | show _ = _); omega)) : P := h

theorem verdK_fit {t clp : Int} {l : List Rb} {k : Nat} {y : Rb} (hy : (askL clp l)[k]? = some y) (hv : verdK t clp l k ≠ 3) (hf : fitsB y.1.b t = true) : verdK t clp l (k + 1) = verdK t clp l k := by
  rw [verdK_succ hy]; unfold vS; rw [if_neg hv, if_pos hf]
theorem verdK_tag {t clp : Int} {l : List Rb} {k : Nat} {y : Rb} (hy : (askL clp l)[k]? = some y) (hv : verdK t clp l k ≠ 3) (hf : fitsB y.1.b t = false) (ht : y.1.tag = true) : verdK t clp l (k + 1) = 2 := by
  rw [verdK_succ hy]; unfold vS; rw [if_neg hv, if_neg (by rw [hf]; decide), if_pos ht]
theorem verdK_drop {t clp : Int} {l : List Rb} {k : Nat} {y : Rb} (hy : (askL clp l)[k]? = some y) (hv : verdK t clp l k ≠ 3) (hf : fitsB y.1.b t = false) (ht : y.1.tag = false) : verdR t clp (l.map (·.1)) = 3 := by
  refine verdK_three (k := k + 1) ?_
  rw [verdK_succ hy]; unfold vS; rw [if_neg hv, if_neg (by rw [hf]; decide), if_neg (by rw [ht]; decide)]
theorem verdict_any (pp rb c : Nat) (Y : Nat → Prop) (a : Bool) (c0 c1 c2 c3 t clp : Int) (l : List Rb) (w : World) (hX : PlX w pp Y a l rb c c0 c1 c2 c3) (hI : RlsI (l.map (·.1))) :
  CV Tryz.prog 64 #[Pt pp 0, I6 t, I6 clp] w (fun x w1 => x = I6 (verdR t clp (l.map (·.1))) ∧ Step No w w1) := by
 have hS : Step No w w := Step.refl _ _
 have hpp : Own w pp (polArr a rb l.length c c0 c1 c2 c3) 112 := hX.own
 have hrow := hX.row.sl
 have hbk := hX.bks
 have hrl := hX.row.lt
 have hbl := hbk.lt
 have hpl := hpp.lt
 have hlen : l.length < 1152921504606846976 := by have h9 := hI.1; rw [List.length_map] at h9; omega
 have hbi : ∀ y ∈ l, BkI y.1.b := fun y hy => hI.2 _ (List.mem_map_of_mem hy)
 refine VCm Tryz.func64 (Vs (Vr ?_))
 have hzk1 := hrl
 refine Vx 0 3 #[I6 t] ?_
 intro b1 w1 hn1
 replace hS := Step.trans hS (hn1.step No)
 replace hpp := hpp.no (hn1.step No)
 replace hrow := hrow.step (hn1.step No) (fun k hk1 hk2 hF => hF)
 replace hbk := BksW.no hbk (hn1.step No)
 replace hrl := Nat.lt_of_lt_of_le hrl (hn1.step No).size
 have ho1 := hn1.own
 have hzhn1 := hn1.size
 have hqhn1 := hn1.eqb
 refine Ve (Vn (VC_scope (Vs (Vr ?_))))
 refine Vx 0 3 #[I6 0] ?_
 intro b2 w2 hn2
 replace hS := Step.trans hS (hn2.step No)
 replace hpp := hpp.no (hn2.step No)
 replace hrow := hrow.step (hn2.step No) (fun k hk1 hk2 hF => hF)
 replace hbk := BksW.no hbk (hn2.step No)
 replace hrl := Nat.lt_of_lt_of_le hrl (hn2.step No).size
 replace ho1 := ho1.no (hn2.step No)
 have ho2 := hn2.own
 have hzhn2 := hn2.size
 have hqhn2 := hn2.eqb
 refine Vst 1 (o := 0) [I6 1] ho2 #[I6 1] ?_
 intro w3 hw1
 replace hS := Step.transNew hS hw1.step (fun _ _ _ => by omega)
 replace hpp := hpp.step hw1.step (show ¬ pp = b2 by omega)
 replace hrow := hrow.step hw1.step (fun k hk1 hk2 (hF : k = b2) => by omega)
 replace hbk := BksW.step hbk hw1.step (fun p hp hF => by have h9 := hbl p hp; have hF : p.2 = b2 := hF; omega)
 replace hrl := Nat.lt_of_lt_of_le hrl (hw1.step).size
 replace ho1 := ho1.step hw1.step (show ¬ b1 = b2 by omega)
 have ho3 := hw1.own
 have hzhw1 := hw1.same
 refine Ve (Vn (Vs (VC_label (Vn (Vs (Vs (Vr (Vp 2 ?_))))))))
 refine Vc 2 Tryz.call65 (asked_any pp clp _) ?_
 rintro _ w4 ⟨bb1, bb2, rfl, hgbb1, hgbb2, hbb1, hbb2, hc1⟩
 replace hS := Step.trans hS hc1
 replace hpp := hpp.no hc1
 replace hrow := hrow.step hc1 (fun k hk1 hk2 hF => hF)
 replace hbk := BksW.no hbk hc1
 replace hrl := Nat.lt_of_lt_of_le hrl (hc1).size
 replace ho1 := ho1.no hc1
 replace ho3 := ho3.no hc1
 have hzhbb1 := hbb1.lt
 have hzhbb2 := hbb2.lt
 refine Ve (Vn (VC_block ?_))
 have hzl7 := hpp.lt
 have hzl9 := ho3.lt
 refine VC_range (gf := 75) (lb := #[Pt bb1 0, Pt bb2 0]) (xs := (askV clp l)) (by kernel_rfl) Tryz.call75 (asked_iter bb1 bb2 pp rb c a clp c0 c1 c2 c3 l hlen) (fun a ha => askV_sz _ _ a ha) (by kernel_rfl) (fun M i => i = b2) (fun M i hi => by (try simp only at hi); omega) (fun M k W => (verdK t clp l (k) ≠ 3) ∧ (Step No w W) ∧ (Own W pp #[Bo a, .slice (some ⟨rb, 0, none⟩) l.length c, I6 c0, I6 c1, I6 c2, I6 c3] 112) ∧ (Sl2 W rb (rb + 1) (some ⟨rb, 0, none⟩) (flat rlc l)) ∧ (BksW W l) ∧ (rb < W.heap.size) ∧ (Own W b1 #[I6 t] 3) ∧ (Own W b2 #[I6 (verdK t clp l (k))] 3) ∧ (Own W bb1 #[Pt pp 0] 71) ∧ (Own W bb2 #[I6 clp] 3)) (fun e W => (e = Exit.exit 0) ∧ (verdR t clp (l.map (·.1)) = 3) ∧ (Step No w W) ∧ (Own W pp #[Bo a, .slice (some ⟨rb, 0, none⟩) l.length c, I6 c0, I6 c1, I6 c2, I6 c3] 112) ∧ (Sl2 W rb (rb + 1) (some ⟨rb, 0, none⟩) (flat rlc l)) ∧ (BksW W l) ∧ (rb < W.heap.size) ∧ (Own W b1 #[I6 t] 3) ∧ (Own W b2 #[I6 3] 3) ∧ (Own W bb1 #[Pt pp 0] 71) ∧ (Own W bb2 #[I6 clp] 3)) (by rintro M k W W' ⟨hv3, hS, hpp, hrow, hbk, hrl, ho1, ho3, hbb1, hbb2⟩ hs; exact ⟨hv3, Step.transNew hS hs (fun i hi hG => by have : i = (w4.heap.size + 1) := hG; omega), hpp.step hs (show ¬ pp = (w4.heap.size + 1) by omega), hrow.step hs (fun k hk1 hk2 (hF : k = (w4.heap.size + 1)) => by omega), BksW.step hbk hs (fun p hp hF => by have h9 := hbl p hp; have hF : p.2 = (w4.heap.size + 1) := hF; omega), Nat.lt_of_lt_of_le hrl hs.size, ho1.step hs (show ¬ b1 = (w4.heap.size + 1) by omega), ho3.step hs (show ¬ b2 = (w4.heap.size + 1) by omega), hbb1.step hs (show ¬ bb1 = (w4.heap.size + 1) by omega), hbb2.step hs (show ¬ bb2 = (w4.heap.size + 1) by omega)⟩) (by rintro e W W' ⟨hee, hv3, hS, hpp, hrow, hbk, hrl, ho1, ho3, hbb1, hbb2⟩ hs; exact ⟨hee, hv3, Step.transNew hS hs (fun i hi hG => by have : i = (w4.heap.size + 1) := hG; omega), hpp.step hs (show ¬ pp = (w4.heap.size + 1) by omega), hrow.step hs (fun k hk1 hk2 (hF : k = (w4.heap.size + 1)) => by omega), BksW.step hbk hs (fun p hp hF => by have h9 := hbl p hp; have hF : p.2 = (w4.heap.size + 1) := hF; omega), Nat.lt_of_lt_of_le hrl hs.size, ho1.step hs (show ¬ b1 = (w4.heap.size + 1) by omega), ho3.step hs (show ¬ b2 = (w4.heap.size + 1) by omega), hbb1.step hs (show ¬ bb1 = (w4.heap.size + 1) by omega), hbb2.step hs (show ¬ bb2 = (w4.heap.size + 1) by omega)⟩) (by rintro M k W W' ⟨hv3, hS, hpp, hrow, hbk, hrl, ho1, ho3, hbb1, hbb2⟩ hs; exact ⟨hv3, Step.trans hS hs, hpp.no hs, hrow.step hs (fun _ _ _ h9 => h9), (BksW.no hbk hs), Nat.lt_of_lt_of_le hrl hs.size, ho1.no hs, ho3.no hs, hbb1.no hs, hbb2.no hs⟩) (by rintro e W W' ⟨hee, hv3, hS, hpp, hrow, hbk, hrl, ho1, ho3, hbb1, hbb2⟩ hs; exact ⟨hee, hv3, Step.trans hS hs, hpp.no hs, hrow.step hs (fun _ _ _ h9 => h9), (BksW.no hbk hs), Nat.lt_of_lt_of_le hrl hs.size, ho1.no hs, ho3.no hs, hbb1.no hs, hbb2.no hs⟩) (by rintro M k W ⟨hv3, hS, hpp, hrow, hbk, hrl, ho1, ho3, hbb1, hbb2⟩; exact ⟨⟨hbb1, hbb2, hpp, hrow⟩, hrl⟩) (fun W hs => ⟨⟨hbb1.no hs, hbb2.no hs, hpp.no hs, hrow.step hs (fun _ _ _ h9 => h9)⟩, Nat.lt_of_lt_of_le hrl hs.size⟩) (fun M W hMm hM2 hs _ => ⟨by rw [verdK_zero]; decide, Step.trans hS hs, hpp.no hs, hrow.step hs (fun _ _ _ h9 => h9), (BksW.no hbk hs), Nat.lt_of_lt_of_le hrl hs.size, ho1.no hs, Own.cast (ho3.no hs) (by rw [verdK_zero]), hbb1.no hs, hbb2.no hs⟩) ?_ ?_ ?_
 ·intro M k w5 args hM hM2 hx hJ0 hsz
  obtain ⟨hv3, hS, hpp, hrow, hbk, hrl, ho1, ho3, hbb1, hbb2⟩ := hJ0
  obtain ⟨y, hy, hym, rfl⟩ := askV_mem hx
  have hAs : Step No w5 w5 := Step.refl _ _
  refine VC_keep [4, 7, 12] [(4, Pt b1 0), (7, Pt b2 0), (12, .agg #[I6 y.1.step, I6 y.1.early, Bo y.1.zero, Bo y.1.tag, .iface 123 (Pt y.2 0)])] (by kernel_rfl) (Vr ?_)
  have hzl17 := hpp.lt
  have hzk5 := hrl
  have hzl19 := ho3.lt
  have hzl20 := hbb1.lt
  have hzl21 := hbb2.lt
  refine Vx 0 108 #[I6 0, I6 0, Bo false, Bo false, .nilIface] ?_
  intro b3 w6 hn3
  replace hS := Step.trans hS (hn3.step No)
  replace hpp := hpp.no (hn3.step No)
  replace hrow := hrow.step (hn3.step No) (fun k hk1 hk2 hF => hF)
  replace hbk := BksW.no hbk (hn3.step No)
  replace hrl := Nat.lt_of_lt_of_le hrl (hn3.step No).size
  replace ho1 := ho1.no (hn3.step No)
  replace ho3 := ho3.no (hn3.step No)
  replace hbb1 := hbb1.no (hn3.step No)
  replace hbb2 := hbb2.no (hn3.step No)
  replace hAs := Step.trans hAs (hn3.step No)
  have ho4 := hn3.own
  have hzhn3 := hn3.size
  have hqhn3 := hn3.eqb
  refine Vst 1 (o := 0) [I6 y.1.step, I6 y.1.early, Bo y.1.zero, Bo y.1.tag, .iface 123 (Pt y.2 0)] ho4 #[I6 y.1.step, I6 y.1.early, Bo y.1.zero, Bo y.1.tag, .iface 123 (Pt y.2 0)] ?_
  intro w7 hw2
  replace hS := Step.transNew hS hw2.step (fun _ _ _ => by omega)
  replace hpp := hpp.step hw2.step (show ¬ pp = b3 by omega)
  replace hrow := hrow.step hw2.step (fun k hk1 hk2 (hF : k = b3) => by omega)
  replace hbk := BksW.step hbk hw2.step (fun p hp hF => by have h9 := hbl p hp; have hF : p.2 = b3 := hF; omega)
  replace hrl := Nat.lt_of_lt_of_le hrl (hw2.step).size
  replace ho1 := ho1.step hw2.step (show ¬ b1 = b3 by omega)
  replace ho3 := ho3.step hw2.step (show ¬ b2 = b3 by omega)
  replace hbb1 := hbb1.step hw2.step (show ¬ bb1 = b3 by omega)
  replace hbb2 := hbb2.step hw2.step (show ¬ bb2 = b3 by omega)
  replace hAs := Step.transNew hAs hw2.step (fun _ _ _ => by omega)
  have ho5 := hw2.own
  have hzhw2 := hw2.same
  refine Ve (VQ_begin hAs ?_)
  intro w8 hb1 hzhb1
  replace hS := Step.transNew hS hb1 (fun _ _ _ => by omega)
  replace hpp := hpp.step hb1 (show ¬ pp = (w4.heap.size + 1) by omega)
  replace hrow := hrow.step hb1 (fun k hk1 hk2 (hF : k = (w4.heap.size + 1)) => by omega)
  replace hbk := BksW.step hbk hb1 (fun p hp hF => by have h9 := hbl p hp; have hF : p.2 = (w4.heap.size + 1) := hF; omega)
  replace hrl := Nat.lt_of_lt_of_le hrl (hb1).size
  replace ho1 := ho1.step hb1 (show ¬ b1 = (w4.heap.size + 1) by omega)
  replace ho3 := ho3.step hb1 (show ¬ b2 = (w4.heap.size + 1) by omega)
  replace hbb1 := hbb1.step hb1 (show ¬ bb1 = (w4.heap.size + 1) by omega)
  replace hbb2 := hbb2.step hb1 (show ¬ bb2 = (w4.heap.size + 1) by omega)
  replace ho5 := ho5.step hb1 (show ¬ b3 = (w4.heap.size + 1) by omega)
  have hR1 : Step ((fun M i => i = b2) M) w8 w8 := Step.refl _ _
  refine VC_block (VC_block (Vs (Vr (Vl 1 ho5 (Vl 2 ho1 ?_)))))
  refine VL_invoke (d := 17) (f := 125) (args := #[Pt y.2 0, I6 t]) (by kernel_rfl) (by kernel_rfl) Tryz.call125 (bfits_any y.2 y.1.b t _ (hbi _ hym) (hbk _ hym)) ?_
  rintro _ w9 ⟨rfl, hc2⟩
  replace hS := Step.trans hS hc2
  replace hpp := hpp.no hc2
  replace hrow := hrow.step hc2 (fun k hk1 hk2 hF => hF)
  replace hbk := BksW.no hbk hc2
  replace hrl := Nat.lt_of_lt_of_le hrl (hc2).size
  replace ho1 := ho1.no hc2
  replace ho3 := ho3.no hc2
  replace hbb1 := hbb1.no hc2
  replace hbb2 := hbb2.no hc2
  replace ho5 := ho5.no hc2
  replace hR1 := Step.trans hR1 (Step.weak hc2)
  refine Ve (Vn (Vif (fitsB y.1.b t) (fun h1 => ?_) (fun h1 => ?_)))
  ·try simp only [BB] at h1
   refine VC_skip (VQ_block_normal (VQ_block_normal ?_))
   exact VQ_round_end hR1 ⟨(by rw [verdK_fit hy hv3 (by assumption)]; exact hv3), hS, hpp, hrow, hbk, hrl, ho1, (Own.cast ho3 (by rw [verdK_fit hy hv3 (by assumption)])), hbb1, hbb2⟩
  ·try simp only [BB] at h1
   refine Vs (Vr (Vl 2 ho5 (Ve (Vn (Vif y.1.tag (fun h2 => ?_) (fun h2 => ?_))))))
   ·try simp only [BB] at h2
    refine Vr (Vst 0 (o := 0) [I6 2] ho3 #[I6 2] ?_)
    intro w10 hw3
    replace hS := Step.transNew hS hw3.step (fun _ _ _ => by omega)
    replace hpp := hpp.step hw3.step (show ¬ pp = b2 by omega)
    replace hrow := hrow.step hw3.step (fun k hk1 hk2 (hF : k = b2) => by omega)
    replace hbk := BksW.step hbk hw3.step (fun p hp hF => by have h9 := hbl p hp; have hF : p.2 = b2 := hF; omega)
    replace hrl := Nat.lt_of_lt_of_le hrl (hw3.step).size
    replace ho1 := ho1.step hw3.step (show ¬ b1 = b2 by omega)
    replace hbb1 := hbb1.step hw3.step (show ¬ bb1 = b2 by omega)
    replace hbb2 := hbb2.step hw3.step (show ¬ bb2 = b2 by omega)
    replace hR1 := Step.trans hR1 (Step.mono hw3.step TAd5aa)
    have ho6 := hw3.own
    refine Ve (VQ_block_normal (VQ_block_normal ?_))
    exact VQ_round_end hR1 ⟨(by rw [verdK_tag hy hv3 (by assumption) (by assumption)]; decide), hS, hpp, hrow, hbk, hrl, ho1, (Own.cast ho6 (by rw [verdK_tag hy hv3 (by assumption) (by assumption)])), hbb1, hbb2⟩
   ·try simp only [BB] at h2
    refine Vs (Vr (Vst 0 (o := 0) [I6 3] ho3 #[I6 3] ?_))
    intro w11 hw4
    replace hS := Step.transNew hS hw4.step (fun _ _ _ => by omega)
    replace hpp := hpp.step hw4.step (show ¬ pp = b2 by omega)
    replace hrow := hrow.step hw4.step (fun k hk1 hk2 (hF : k = b2) => by omega)
    replace hbk := BksW.step hbk hw4.step (fun p hp hF => by have h9 := hbl p hp; have hF : p.2 = b2 := hF; omega)
    replace hrl := Nat.lt_of_lt_of_le hrl (hw4.step).size
    replace ho1 := ho1.step hw4.step (show ¬ b1 = b2 by omega)
    replace hbb1 := hbb1.step hw4.step (show ¬ bb1 = b2 by omega)
    replace hbb2 := hbb2.step hw4.step (show ¬ bb2 = b2 by omega)
    replace hR1 := Step.trans hR1 (Step.mono hw4.step TAd5aa)
    have ho7 := hw4.own
    refine Ve (Vn (VC_exit (VQ_block_miss (by kernel_rfl) (VQ_block_miss (by kernel_rfl) ?_))))
    exact VQ_round_exit hR1 ⟨rfl, (verdK_drop hy hv3 (by assumption) (by assumption)), hS, hpp, hrow, hbk, hrl, ho1, ho7, hbb1, hbb2⟩
 ·intro M w12 hM hzM hJ0 hD
  rw [verdK_all] at hJ0
  obtain ⟨hv3, hS, hpp, hrow, hbk, hrl, ho1, ho3, hbb1, hbb2⟩ := hJ0
  have hmk1 := hD
  refine VQ_block_normal (Vn (Vs (Vr (Vl 0 ho3 (Ve (Vn (VC_ret (VQ_scope_ret ?_))))))))
  refine VrM (I6 (verdR t clp (l.map (·.1)))) (Ds := [w4.heap.size]) ⟨hmk1, (by simp), trivial⟩ ?_
  intro w13 hq1
  replace hq1 : Step (Just w4.heap.size) w12 w13 := Step.mono hq1 (fun i hi => by simpa using hi)
  replace hS := Step.transNew hS hq1 (fun _ _ _ => by omega)
  exact ⟨rfl, hS⟩
 ·intro e w14 hzM hJ0 hD
  obtain ⟨hee, hv3, hS, hpp, hrow, hbk, hrl, ho1, ho3, hbb1, hbb2⟩ := hJ0
  subst hee
  have hmk2 := hD
  refine VQ_block_hit (Vn (Vs (Vr (Vl 0 ho3 (Ve (Vn (VC_ret (VQ_scope_ret ?_))))))))
  refine VrM (I6 3) (Ds := [w4.heap.size]) ⟨hmk2, (by simp), trivial⟩ ?_
  intro w15 hq2
  replace hq2 : Step (Just w4.heap.size) w14 w15 := Step.mono hq2 (fun i hi => by simpa using hi)
  replace hS := Step.transNew hS hq2 (fun _ _ _ => by omega)
  exact ⟨congrArg (Value.int .i64) hv3.symm, hS⟩

end Go.Proofs.YthchmlidobgkoaaGreat
end

section
/- Layer 20: a cell is policed. -/
set_option linter.unusedVariables false
set_option linter.unusedSimpArgs false
set_option maxRecDepth 100000
set_option maxHeartbeats 4000000
namespace Go.Proofs.YthchmlidobgkoaaGreat
open Go.Vc Go.RowKit
theorem TAd6aa {P : Prop} (h : P := by rintro M k W W' ⟨hS, hpp, hrow, hbk, hrl, ho1, hbb1, hbb2⟩ hs; exact ⟨Step.transNew hS hs (fun i hi hF => by have hF9 : i = (w3.heap.size + 1) := hF; omega), hpp.step hs (show ¬ pp = (w3.heap.size + 1) by omega), hrow.step hs (fun k hk1 hk2 (hF : k = (w3.heap.size + 1)) => by omega), BksW.step hbk hs (fun p hp hF => by have h9 := hbl _ p hp; have h8 := hbp _ p hp; have hF : p.2 = (w3.heap.size + 1) := hF; omega), Nat.lt_of_lt_of_le hrl hs.size, ho1.step hs (show ¬ b1 = (w3.heap.size + 1) by omega), hbb1.step hs (show ¬ bb1 = (w3.heap.size + 1) by omega), hbb2.step hs (show ¬ bb2 = (w3.heap.size + 1) by omega)⟩) : P := h
theorem TAd6ab {P : Prop} (h : P := by rintro M k W W' ⟨hS, hpp, hrow, hbk, hrl, ho1, hbb1, hbb2⟩ hs; exact ⟨(stepP_no hS hs), hpp.no hs, hrow.step hs (fun _ _ _ h9 => h9), (BksW.no hbk hs), Nat.lt_of_lt_of_le hrl hs.size, ho1.no hs, hbb1.no hs, hbb2.no hs⟩) : P := h
theorem TAd6ac {P : Prop} (h : P := by intro i hi; first | exact hi | exact ⟨_, by assumption, hi⟩ | (have hi9 : i = y.2 := hi; (first | show _ ∨ _ | show _ = _); omega)) : P := h
theorem TAd6ad {P : Prop} (h : P := by rw [polV_of hv]; first | rfl | simp_all) : P := h
theorem TAd6ae {P : Prop} (h : P := by rintro M k W ⟨hS, hpp, hrow, hbk, hrl, ho1, hbb1, hbb2⟩; exact ⟨⟨hbb1, hbb2, hpp, hrow⟩, hrl⟩) : P := h
theorem TAd6af {P : Prop} (h : P := by rintro e W W' h; exact h.elim) : P := h

/-- The first k of those that are asked have taken. -/
def takeK (t clp : Int) : Nat → List Rb → List Rb
  | _, [] => []
  | k, p :: l => if askB clp p.1 = true then (match k with | 0 => p :: l | k + 1 => (takeR t p.1, p.2) :: takeK t clp k l) else p :: takeK t clp k l
theorem takeK_zero (t clp : Int) : ∀ l, takeK t clp 0 l = l
  | [] => rfl
  | p :: l => by simp only [takeK, takeK_zero t clp l]; split <;> rfl
theorem takeK_snd (t clp : Int) : ∀ (l : List Rb) (k : Nat), (takeK t clp k l).map (·.2) = l.map (·.2)
  | [], _ => rfl
  | p :: l, k => by
    simp only [takeK]
    split
    · cases k with
      | zero => rfl
      | succ k => simp only [List.map_cons, takeK_snd t clp l k]
    · simp only [List.map_cons, takeK_snd t clp l k]
theorem takeK_flat (t clp : Int) : ∀ (l : List Rb) (k : Nat), flat rlc (takeK t clp k l) = flat rlc l
  | [], _ => rfl
  | p :: l, k => by
    simp only [takeK]
    split
    · cases k with
      | zero => rfl
      | succ k => rw [flat_cons, flat_cons, takeK_flat t clp l k]; rfl
    · rw [flat_cons, flat_cons, takeK_flat t clp l k]
theorem takeK_len (t clp : Int) (l : List Rb) (k : Nat) : (takeK t clp k l).length = l.length := by
  have := congrArg List.length (takeK_snd t clp l k)
  simpa using this
theorem takeK_mem (t clp : Int) : ∀ (l : List Rb) (k : Nat) (y : Rb), (askL clp l)[k]? = some y → y ∈ takeK t clp k l
  | [], k, y, h => by simp [askL] at h
  | p :: l, k, y, h => by
    simp only [takeK]
    by_cases ha : askB clp p.1 = true
    · rw [if_pos ha]
      unfold askL at h
      rw [List.filter_cons_of_pos (p := fun p : Rb => askB clp p.1) ha] at h
      cases k with
      | zero => simp only [List.getElem?_cons_zero, Option.some.injEq] at h; subst h; exact List.mem_cons_self ..
      | succ k => exact List.mem_cons_of_mem _ (takeK_mem t clp l k y (by simpa [askL] using h))
    · rw [if_neg ha]
      unfold askL at h
      rw [List.filter_cons_of_neg (p := fun p : Rb => askB clp p.1) ha] at h
      exact List.mem_cons_of_mem _ (takeK_mem t clp l k y h)
theorem takeK_succ (t clp : Int) : ∀ (l : List Rb) (k : Nat) (y : Rb), (l.map (·.2)).Nodup → (askL clp l)[k]? = some y → ∀ p ∈ takeK t clp (k + 1) l, p = (takeR t y.1, y.2) ∨ (p ∈ takeK t clp k l ∧ p.2 ≠ y.2)
  | [], k, y, _, h => by simp [askL] at h
  | q :: l, k, y, hnd, h => by
    intro p hp
    obtain ⟨hq, hnd'⟩ := List.nodup_cons.1 hnd
    have hsnd : ∀ k z, z ∈ takeK t clp k l → z.2 ∈ l.map (·.2) := fun k z hz => by rw [← takeK_snd t clp l k]; exact List.mem_map_of_mem hz
    have hym : ∀ k, (askL clp l)[k]? = some y → y.2 ∈ l.map (·.2) := fun k hk => List.mem_map_of_mem (List.mem_filter.1 (List.mem_of_getElem? hk)).1
    simp only [takeK] at hp ⊢
    by_cases ha : askB clp q.1 = true
    · rw [if_pos ha] at hp ⊢
      unfold askL at h
      rw [List.filter_cons_of_pos (p := fun p : Rb => askB clp p.1) ha] at h
      cases k with
      | zero =>
        simp only [List.getElem?_cons_zero, Option.some.injEq] at h
        subst h
        rcases List.mem_cons.1 hp with rfl | hp
        · exact .inl rfl
        · rw [takeK_zero] at hp
          exact .inr ⟨List.mem_cons_of_mem _ hp, fun e => hq (by have h9 : p.2 ∈ l.map (·.2) := List.mem_map_of_mem hp; rw [e] at h9; exact h9)⟩
      | succ k =>
        have h : (askL clp l)[k]? = some y := by simpa [askL] using h
        rcases List.mem_cons.1 hp with rfl | hp
        · exact .inr ⟨List.mem_cons_self .., fun e => hq (by have h9 := hym k h; have e : q.2 = y.2 := e; rw [← e] at h9; exact h9)⟩
        · rcases takeK_succ t clp l k y hnd' h p hp with h1 | ⟨h1, h2⟩
          · exact .inl h1
          · exact .inr ⟨List.mem_cons_of_mem _ h1, h2⟩
    · rw [if_neg ha] at hp ⊢
      unfold askL at h
      rw [List.filter_cons_of_neg (p := fun p : Rb => askB clp p.1) ha] at h
      rcases List.mem_cons.1 hp with rfl | hp
      · exact .inr ⟨List.mem_cons_self .., fun e => hq (by have h9 := hym k h; rw [← e] at h9; exact h9)⟩
      · rcases takeK_succ t clp l k y hnd' h p hp with h1 | ⟨h1, h2⟩
        · exact .inl h1
        · exact .inr ⟨List.mem_cons_of_mem _ h1, h2⟩
theorem takeK_all (t clp : Int) : ∀ (l : List Rb), (takeK t clp (askL clp l).length l).map (·.1) = (l.map (·.1)).map fun r => if askB clp r = true then takeR t r else r
  | [] => rfl
  | p :: l => by
    unfold askL
    simp only [takeK, List.map_cons, List.filter_cons]
    by_cases ha : askB clp p.1 = true
    · have := takeK_all t clp l
      unfold askL at this
      simp only [ha, if_true, List.length_cons, List.map_cons, this]
    · have := takeK_all t clp l
      unfold askL at this
      simp only [ha, Bool.false_eq_true, if_false, List.map_cons, this]
theorem BksW.take {w w1 : World} {t clp : Int} {l : List Rb} {k : Nat} {y : Rb} (h : BksW w (takeK t clp k l)) (hnd : (l.map (·.2)).Nodup) (hy : (askL clp l)[k]? = some y) (ho : Own w1 y.2 #[.int .i64 (takeB y.1.b t).step, .int .i64 (takeB y.1.b t).early, .int .i64 (takeB y.1.b t).next, .bool (takeB y.1.b t).any] 135) (hs : Step (Just y.2) w w1) : BksW w1 (takeK t clp (k + 1) l) := by
  intro p hp
  rcases takeK_succ t clp l k y hnd hy p hp with rfl | ⟨h1, h2⟩
  · exact ho
  · exact (h p h1).step hs h2
def polF (pp : Nat) (l : List Rb) (k : Nat) : Prop := k = pp ∨ ∃ p ∈ l, k = p.2
theorem stepP_no {pp : Nat} {l : List Rb} {w w1 w2 : World} (h : Step (polF pp l) w w1) (k : Step No w1 w2) : Step (polF pp l) w w2 := Step.trans h k.weak
theorem polV_of {a : Bool} {t clp v : Int} {l : List Rl} (hv : verdR t clp l = v) : polV a t clp l = if v = 1 ∧ a = true ∧ clp = 0 then 2 else v := by unfold polV; rw [hv]
theorem ptake_done {w w1 : World} {pp rb c k : Nat} {Y : Nat → Prop} {a : Bool} {c0 c1 c2 c3 d0 d1 d2 d3 t clp v : Int} {l : List Rb} (av : Int) (hX : PlX w pp Y a l rb c c0 c1 c2 c3) (hI : RlsI (l.map (·.1))) (hv : verdR t clp (l.map (·.1)) = v) (ho : Own w1 pp (polArr a rb l.length c d0 d1 d2 d3) 112)
    (hrow : Sl2 w1 rb (rb + 1) (some ⟨rb, 0, none⟩) (flat rlc l)) (hb : BksW w1 (takeK t av k l)) (hS : Step (polF pp l) w w1) (hk : (v = 3 ∧ k = 0) ∨ (v ≠ 3 ∧ av = asV v clp ∧ k = (askL av l).length)) : Pl w1 pp Y a (rulesT t clp (l.map (·.1))) ∧ Step Y w w1 := by
  have hFr : ¬ polF pp l rb := by
    rintro (h | ⟨p, hp, h⟩)
    · exact hX.ne_row h
    · exact (hX.ne_b p hp).2 h.symm
  have hsnd : ∀ p ∈ takeK t av k l, ∃ q ∈ l, q.2 = p.2 := fun p hp => by
    have h9 : p.2 ∈ l.map (·.2) := by rw [← takeK_snd t av l k]; exact List.mem_map_of_mem hp
    exact List.mem_map.1 h9
  have hty : ∀ q, Y q → PT w1 q := by
    intro q hq
    by_cases h1 : q = pp
    · subst h1; exact .inl ho.tyB
    · by_cases h2 : ∃ p ∈ l, q = p.2
      · obtain ⟨p, hp, rfl⟩ := h2
        have h9 : p.2 ∈ (takeK t av k l).map (·.2) := by rw [takeK_snd]; exact List.mem_map_of_mem hp
        obtain ⟨z, hz, he⟩ := List.mem_map.1 h9
        rw [← he]; exact .inr (.inr (hb z hz).tyB)
      · exact (hX.ty q hq).step hS (by rintro (h | h); exact h1 h; exact h2 h)
  refine ⟨⟨hI.take t clp, takeK t av k l, rb, c, d0, d1, d2, d3, ?_, ⟨?_, ⟨by rw [takeK_flat]; exact hrow, hX.row.ty.step hS hFr⟩, hb, by rw [takeK_snd]; exact hX.nodup, hX.inP, hX.inR, ?_, hty, by rw [takeK_len]; exact hX.pos⟩⟩, hS.mono ?_⟩
  · unfold rulesT
    rw [hv]
    rcases hk with ⟨rfl, rfl⟩ | ⟨h1, rfl, rfl⟩
    · rw [if_pos rfl, takeK_zero]
    · rw [if_neg h1, takeK_all]
  · rw [takeK_len]; exact ho
  · intro p hp
    obtain ⟨q, hq, h8⟩ := hsnd p hp
    rw [← h8]; exact hX.inB q hq
  · rintro i (rfl | ⟨p, hp, rfl⟩)
    · exact hX.inP
    · exact hX.inB p hp
theorem ptake_1 (pp rb c : Nat) (Y : Nat → Prop) (a : Bool) (c0 c1 c2 c3 t clp : Int) (l : List Rb) (w : World) (hX : PlX w pp Y a l rb c c0 c1 c2 c3) (hI : RlsI (l.map (·.1))) (hv : verdR t clp (l.map (·.1)) = 1) :
  CV Tryz.prog 45 #[Pt pp 0, I6 t, I6 clp] w (fun x w1 => x = I6 (polV a t clp (l.map (·.1))) ∧ Pl w1 pp Y a (rulesT t clp (l.map (·.1))) ∧ Step Y w w1) := by
 have hpp : Own w pp (polArr a rb l.length c c0 c1 c2 c3) 112 := hX.own
 have hrow := hX.row.sl
 have hbk : BksW w (takeK t clp (0) l) := by rw [takeK_zero]; exact hX.bks
 have hrl := hX.row.lt
 have hbl0 := hX.bks.lt
 have hin : ∀ k (p : Rb), p ∈ takeK t clp k l → ∃ q ∈ l, q.2 = p.2 := fun k p hp => List.mem_map.1 (by rw [← takeK_snd t clp l k]; exact List.mem_map_of_mem hp)
 have hbl : ∀ k (p : Rb), p ∈ takeK t clp k l → p.2 < w.heap.size := fun k p hp => by obtain ⟨q, hq, h8⟩ := hin k p hp; have h7 := hbl0 q hq; omega
 have hbp : ∀ k (p : Rb), p ∈ takeK t clp k l → p.2 ≠ pp := fun k p hp => by obtain ⟨q, hq, h8⟩ := hin k p hp; have h7 := (hX.ne_b q hq).1; omega
 have hnrp := hX.ne_row
 have hlen : l.length < 1152921504606846976 := by have h9 := hI.1; rw [List.length_map] at h9; omega
 have hbi : ∀ y ∈ l, BkI y.1.b := fun y hy => hI.2 _ (List.mem_map_of_mem hy)
 have hS : Step (polF pp l) w w := Step.refl _ _
 have hSn : Step No w w := Step.refl _ _
 refine VCm Tryz.func45 (Vs (Vr ?_))
 refine Vx 0 3 #[I6 t] ?_
 intro b1 w1 hn1
 replace hSn := Step.trans hSn (hn1.step No)
 replace hS := stepP_no hS (hn1.step No)
 replace hpp := hpp.no (hn1.step No)
 replace hrow := hrow.step (hn1.step No) (fun k hk1 hk2 hF => hF)
 replace hbk := BksW.no hbk (hn1.step No)
 replace hrl := Nat.lt_of_lt_of_le hrl (hn1.step No).size
 have ho1 := hn1.own
 have hzhn1 := hn1.size
 have hqhn1 := hn1.eqb
 refine Ve (Vn (Vs (Vrp (Vf (VC_skip (Vn (Vs (Vr (Vl 1 ho1 (Vp 3 ?_))))))))))
 refine Vc 3 Tryz.call64 ((verdict_any pp rb c Y a c0 c1 c2 c3 t clp l _ (hX.step hSn (fun _ _ h9 => h9)) hI).mono (fun x w1 h9 => ⟨h9.1.trans (by rw [hv]), h9.2⟩ : ∀ x w1, _ → x = I6 1 ∧ Step No _ w1)) ?_
 rintro _ w2 ⟨rfl, hc1⟩
 replace hS := stepP_no hS hc1
 replace hpp := hpp.no hc1
 replace hrow := hrow.step hc1 (fun k hk1 hk2 hF => hF)
 replace hbk := BksW.no hbk hc1
 replace hrl := Nat.lt_of_lt_of_le hrl (hc1).size
 replace ho1 := ho1.no hc1
 refine Ve (Vn (Vrp (Vs (Vrp (Vf (VC_skip (Vn (Vs (Vrp (Vt (Vs (Vr (Vp 2 ?_)))))))))))))
 have hzl5 := ho1.lt
 refine Vc 2 Tryz.call65 (asked_any pp clp _) ?_
 rintro _ w3 ⟨bb1, bb2, rfl, hgbb1, hgbb2, hbb1, hbb2, hc2⟩
 replace hS := stepP_no hS hc2
 replace hpp := hpp.no hc2
 replace hrow := hrow.step hc2 (fun k hk1 hk2 hF => hF)
 replace hbk := BksW.no hbk hc2
 replace hrl := Nat.lt_of_lt_of_le hrl (hc2).size
 replace ho1 := ho1.no hc2
 have hzhbb1 := hbb1.lt
 have hzhbb2 := hbb2.lt
 refine Ve (Vn (VC_block ?_))
 have hzl6 := hpp.lt
 have hzl7 := ho1.lt
 refine VC_range (gf := 75) (lb := #[Pt bb1 0, Pt bb2 0]) (xs := (askV clp l)) (by kernel_rfl) Tryz.call75 (asked_iter bb1 bb2 pp rb c a clp c0 c1 c2 c3 l hlen) (fun a ha => askV_sz _ _ a ha) (by kernel_rfl) (fun M i => ∃ p ∈ l, i = p.2) (fun M i ⟨p, hp, hi⟩ => by have h9 := hbl0 p hp; omega) (fun M k W => (Step (polF pp l) w W) ∧ (Own W pp #[Bo a, .slice (some ⟨rb, 0, none⟩) l.length c, I6 c0, I6 c1, I6 c2, I6 c3] 112) ∧ (Sl2 W rb (rb + 1) (some ⟨rb, 0, none⟩) (flat rlc l)) ∧ (BksW W (takeK t clp (k) l)) ∧ (rb < W.heap.size) ∧ (Own W b1 #[I6 t] 3) ∧ (Own W bb1 #[Pt pp 0] 71) ∧ (Own W bb2 #[I6 clp] 3)) (fun e W => False) TAd6aa TAd6af TAd6ab TAd6af TAd6ae (fun W hs => ⟨⟨hbb1.no hs, hbb2.no hs, hpp.no hs, hrow.step hs (fun _ _ _ h9 => h9)⟩, Nat.lt_of_lt_of_le hrl hs.size⟩) (fun M W hMm hM2 hs _ => ⟨(stepP_no hS hs), hpp.no hs, hrow.step hs (fun _ _ _ h9 => h9), (BksW.no hbk hs), Nat.lt_of_lt_of_le hrl hs.size, ho1.no hs, hbb1.no hs, hbb2.no hs⟩) ?_ ?_ ?_
 ·intro M k w4 args hM hM2 hx hJ0 hsz
  obtain ⟨hS, hpp, hrow, hbk, hrl, ho1, hbb1, hbb2⟩ := hJ0
  obtain ⟨y, hy, hym, rfl⟩ := askV_mem hx
  have hyl := hbl0 y hym
  have hyn := hX.ne_b y hym
  have hAs : Step No w4 w4 := Step.refl _ _
  refine VC_keep [4, 24] [(4, Pt b1 0), (24, .agg #[I6 y.1.step, I6 y.1.early, Bo y.1.zero, Bo y.1.tag, .iface 123 (Pt y.2 0)])] (by kernel_rfl) (Vr ?_)
  have hzl14 := hpp.lt
  have hzk4 := hrl
  have hzl15 := ho1.lt
  have hzl16 := hbb1.lt
  have hzl17 := hbb2.lt
  refine Vx 0 108 #[I6 0, I6 0, Bo false, Bo false, .nilIface] ?_
  intro b2 w5 hn2
  replace hS := stepP_no hS (hn2.step No)
  replace hpp := hpp.no (hn2.step No)
  replace hrow := hrow.step (hn2.step No) (fun k hk1 hk2 hF => hF)
  replace hbk := BksW.no hbk (hn2.step No)
  replace hrl := Nat.lt_of_lt_of_le hrl (hn2.step No).size
  replace ho1 := ho1.no (hn2.step No)
  replace hbb1 := hbb1.no (hn2.step No)
  replace hbb2 := hbb2.no (hn2.step No)
  replace hAs := Step.trans hAs (hn2.step No)
  have ho2 := hn2.own
  have hzhn2 := hn2.size
  have hqhn2 := hn2.eqb
  refine Vst 1 (o := 0) [I6 y.1.step, I6 y.1.early, Bo y.1.zero, Bo y.1.tag, .iface 123 (Pt y.2 0)] ho2 #[I6 y.1.step, I6 y.1.early, Bo y.1.zero, Bo y.1.tag, .iface 123 (Pt y.2 0)] ?_
  intro w6 hw1
  replace hS := Step.transNew hS hw1.step (fun i hi hF => by have hF9 : i = b2 := hF; omega)
  replace hpp := hpp.step hw1.step (show ¬ pp = b2 by omega)
  replace hrow := hrow.step hw1.step (fun k hk1 hk2 (hF : k = b2) => by omega)
  replace hbk := BksW.step hbk hw1.step (fun p hp hF => by have h9 := hbl _ p hp; have h8 := hbp _ p hp; have hF : p.2 = b2 := hF; omega)
  replace hrl := Nat.lt_of_lt_of_le hrl (hw1.step).size
  replace ho1 := ho1.step hw1.step (show ¬ b1 = b2 by omega)
  replace hbb1 := hbb1.step hw1.step (show ¬ bb1 = b2 by omega)
  replace hbb2 := hbb2.step hw1.step (show ¬ bb2 = b2 by omega)
  replace hAs := Step.transNew hAs hw1.step (fun _ _ _ => by omega)
  have ho3 := hw1.own
  have hzhw1 := hw1.same
  refine Ve (VQ_begin hAs ?_)
  intro w7 hb1 hzhb1
  replace hS := Step.transNew hS hb1 (fun i hi hF => by have hF9 : i = (w3.heap.size + 1) := hF; omega)
  replace hpp := hpp.step hb1 (show ¬ pp = (w3.heap.size + 1) by omega)
  replace hrow := hrow.step hb1 (fun k hk1 hk2 (hF : k = (w3.heap.size + 1)) => by omega)
  replace hbk := BksW.step hbk hb1 (fun p hp hF => by have h9 := hbl _ p hp; have h8 := hbp _ p hp; have hF : p.2 = (w3.heap.size + 1) := hF; omega)
  replace hrl := Nat.lt_of_lt_of_le hrl (hb1).size
  replace ho1 := ho1.step hb1 (show ¬ b1 = (w3.heap.size + 1) by omega)
  replace hbb1 := hbb1.step hb1 (show ¬ bb1 = (w3.heap.size + 1) by omega)
  replace hbb2 := hbb2.step hb1 (show ¬ bb2 = (w3.heap.size + 1) by omega)
  replace ho3 := ho3.step hb1 (show ¬ b2 = (w3.heap.size + 1) by omega)
  have hR1 : Step ((fun M i => ∃ p ∈ l, i = p.2) M) w7 w7 := Step.refl _ _
  refine VC_block (Vr (Vl 1 ho3 (Vl 2 ho1 ?_)))
  refine VL_invoke (d := 28) (f := 126) (args := #[Pt y.2 0, I6 t]) (by kernel_rfl) (by kernel_rfl) Tryz.call126 (btake_any y.2 y.1.b t _ (hbi _ hym) (hbk _ (takeK_mem t clp l k y hy))) ?_
  rintro _ w8 ⟨rfl, hbo, hc3⟩
  replace hS := Step.trans hS (Step.mono hc3 (fun i hi => .inr ⟨y, hym, hi⟩))
  replace hpp := hpp.step hc3 (show ¬ pp = y.2 by omega)
  replace hrow := hrow.step hc3 (fun k hk1 hk2 (hF : k = y.2) => by omega)
  replace hrl := Nat.lt_of_lt_of_le hrl (hc3).size
  replace ho1 := ho1.step hc3 (show ¬ b1 = y.2 by omega)
  replace hbb1 := hbb1.step hc3 (show ¬ bb1 = y.2 by omega)
  replace hbb2 := hbb2.step hc3 (show ¬ bb2 = y.2 by omega)
  replace hR1 := Step.trans hR1 (Step.mono hc3 TAd6ac)
  have hbk2 := BksW.take hbk hX.nodup hy hbo hc3
  refine Ve (VQ_block_normal ?_)
  exact VQ_round_end hR1 ⟨hS, hpp, hrow, hbk2, hrl, ho1, hbb1, hbb2⟩
 ·intro M w9 hM hzM hJ0 hD
  rw [askV_lenL] at hJ0
  obtain ⟨hS, hpp, hrow, hbk, hrl, ho1, hbb1, hbb2⟩ := hJ0
  have hmk1 := hD
  refine VQ_block_normal (Vn (Vs (Vs (Vr (Vl 6 hpp (VL_pure 9 [0, 2, 7, 37] [(0, Pt pp 0), (2, I6 clp), (7, I6 1), (37, Bo a)] (by kernel_rfl) rfl (VL_bool a (fun bV => [(0, Pt pp 0), (2, I6 clp), (7, I6 1), (37, Bo bV)]) rfl (fun hg1 => ?_) (fun hg1 => ?_))))))))
  ·refine Ve (Vn (Vie clp 0 (fun h1 => ?_) (fun h1 => ?_)))
   ·refine Vr (Ve (Vn (Vs (Vd 8 [(3, Pt pp 2), (4, I6 c0)] [3, 4] ?_ ?_))))
    ·intro w10 hs1
     replace hpp := hpp.no hs1
     exact ⟨Dv (Pt pp 2) (Det1_index (d := 44) (b := pp) (o := 2) (len := 4) (sz := 1) (m := 0) (by kernel_rfl) (by kernel_rfl) 0 (by rfl) (by omega) 2 (by omega)), Dl hpp, trivial⟩
    intro w10 hs1
    replace hS := stepP_no hS hs1
    replace hpp := hpp.no hs1
    replace hrow := hrow.step hs1 (fun k hk1 hk2 hF => hF)
    replace hbk := BksW.no hbk hs1
    replace hmk1 := hmk1.no hs1
    refine VL_index (d := 49) (b := pp) (o := 2) (len := 4) (sz := 1) (m := 0) (by kernel_rfl) (by kernel_rfl) 0 (by rfl) (by omega) 2 (by omega) (Vst 9 (o := 2) [I6 (IntKind.wrap .i64 (c0 + 1))] hpp #[Bo a, .slice (some ⟨rb, 0, none⟩) l.length c, I6 (IntKind.wrap .i64 (c0 + 1)), I6 c1, I6 c2, I6 c3] ?_)
    intro w11 hw2
    replace hS := Step.trans hS (Step.mono hw2.step (fun i hi => .inl hi))
    replace hrow := hrow.step hw2.step (fun k hk1 hk2 (hF : k = pp) => by omega)
    replace hbk := BksW.step hbk hw2.step (fun p hp hF => by have h9 := hbl _ p hp; have h8 := hbp _ p hp; have hF : p.2 = pp := hF; omega)
    replace hmk1 := hmk1.step hw2.step (show ¬ w3.heap.size = pp by omega)
    have ho4 := hw2.own
    refine Ve (Vn (Vs (Vd 9 [(4, Pt pp 4), (5, I6 c2)] [4, 5] ?_ ?_)))
    ·intro w12 hs2
     replace ho4 := ho4.no hs2
     exact ⟨Dv (Pt pp 4) (Det1_index (d := 54) (b := pp) (o := 2) (len := 4) (sz := 1) (m := 2) (by kernel_rfl) (by kernel_rfl) 2 (by rfl) (by omega) 4 (by omega)), Dl ho4, trivial⟩
    intro w12 hs2
    replace hS := stepP_no hS hs2
    replace hrow := hrow.step hs2 (fun k hk1 hk2 hF => hF)
    replace hbk := BksW.no hbk hs2
    replace hmk1 := hmk1.no hs2
    replace ho4 := ho4.no hs2
    refine VL_index (d := 59) (b := pp) (o := 2) (len := 4) (sz := 1) (m := 2) (by kernel_rfl) (by kernel_rfl) 2 (by rfl) (by omega) 4 (by omega) (Vst 10 (o := 4) [I6 (IntKind.wrap .i64 (c2 + 1))] ho4 #[Bo a, .slice (some ⟨rb, 0, none⟩) l.length c, I6 (IntKind.wrap .i64 (c0 + 1)), I6 c1, I6 (IntKind.wrap .i64 (c2 + 1)), I6 c3] ?_)
    intro w13 hw3
    replace hS := Step.trans hS (Step.mono hw3.step (fun i hi => .inl hi))
    replace hrow := hrow.step hw3.step (fun k hk1 hk2 (hF : k = pp) => by omega)
    replace hbk := BksW.step hbk hw3.step (fun p hp hF => by have h9 := hbl _ p hp; have h8 := hbp _ p hp; have hF : p.2 = pp := hF; omega)
    replace hmk1 := hmk1.step hw3.step (show ¬ w3.heap.size = pp by omega)
    have ho5 := hw3.own
    refine Ve (Vn (Vrp (VC_ret ?_)))
    refine VrM (I6 2) (Ds := [w3.heap.size]) ⟨hmk1, (by simp), trivial⟩ ?_
    intro w14 hq1
    replace hq1 : Step (Just w3.heap.size) w13 w14 := Step.mono hq1 (fun i hi => by simpa using hi)
    replace hS := Step.transNew hS hq1 (fun i hi hF => by have hF9 : i = w3.heap.size := hF; omega)
    replace hrow := hrow.step hq1 (fun k hk1 hk2 (hF : k = w3.heap.size) => by omega)
    replace hbk := BksW.step hbk hq1 (fun p hp hF => by have h9 := hbl _ p hp; have h8 := hbp _ p hp; have hF : p.2 = w3.heap.size := hF; omega)
    replace ho5 := ho5.step hq1 (show ¬ pp = w3.heap.size by omega)
    exact ⟨congrArg (Value.int .i64) TAd6ad, ptake_done clp hX hI hv ho5 hrow hbk hS (.inr ⟨by decide, rfl, rfl⟩)⟩
   ·refine VC_skip (Vn (Vs (Vd 8 [(3, Pt pp 2), (4, I6 c0)] [3, 4] ?_ ?_)))
    ·intro w15 hs3
     replace hpp := hpp.no hs3
     exact ⟨Dv (Pt pp 2) (Det1_index (d := 44) (b := pp) (o := 2) (len := 4) (sz := 1) (m := 0) (by kernel_rfl) (by kernel_rfl) 0 (by rfl) (by omega) 2 (by omega)), Dl hpp, trivial⟩
    intro w15 hs3
    replace hS := stepP_no hS hs3
    replace hpp := hpp.no hs3
    replace hrow := hrow.step hs3 (fun k hk1 hk2 hF => hF)
    replace hbk := BksW.no hbk hs3
    replace hmk1 := hmk1.no hs3
    refine VL_index (d := 49) (b := pp) (o := 2) (len := 4) (sz := 1) (m := 0) (by kernel_rfl) (by kernel_rfl) 0 (by rfl) (by omega) 2 (by omega) (Vst 9 (o := 2) [I6 (IntKind.wrap .i64 (c0 + 1))] hpp #[Bo a, .slice (some ⟨rb, 0, none⟩) l.length c, I6 (IntKind.wrap .i64 (c0 + 1)), I6 c1, I6 c2, I6 c3] ?_)
    intro w16 hw4
    replace hS := Step.trans hS (Step.mono hw4.step (fun i hi => .inl hi))
    replace hrow := hrow.step hw4.step (fun k hk1 hk2 (hF : k = pp) => by omega)
    replace hbk := BksW.step hbk hw4.step (fun p hp hF => by have h9 := hbl _ p hp; have h8 := hbp _ p hp; have hF : p.2 = pp := hF; omega)
    replace hmk1 := hmk1.step hw4.step (show ¬ w3.heap.size = pp by omega)
    have ho6 := hw4.own
    refine Ve (Vn (Vs (Vd 9 [(4, Pt pp 3), (5, I6 c1)] [4, 5] ?_ ?_)))
    ·intro w17 hs4
     replace ho6 := ho6.no hs4
     exact ⟨Dv (Pt pp 3) (Det1_index (d := 54) (b := pp) (o := 2) (len := 4) (sz := 1) (m := 1) (by kernel_rfl) (by kernel_rfl) 1 (by rfl) (by omega) 3 (by omega)), Dl ho6, trivial⟩
    intro w17 hs4
    replace hS := stepP_no hS hs4
    replace hrow := hrow.step hs4 (fun k hk1 hk2 hF => hF)
    replace hbk := BksW.no hbk hs4
    replace hmk1 := hmk1.no hs4
    replace ho6 := ho6.no hs4
    refine VL_index (d := 59) (b := pp) (o := 2) (len := 4) (sz := 1) (m := 1) (by kernel_rfl) (by kernel_rfl) 1 (by rfl) (by omega) 3 (by omega) (Vst 10 (o := 3) [I6 (IntKind.wrap .i64 (c1 + 1))] ho6 #[Bo a, .slice (some ⟨rb, 0, none⟩) l.length c, I6 (IntKind.wrap .i64 (c0 + 1)), I6 (IntKind.wrap .i64 (c1 + 1)), I6 c2, I6 c3] ?_)
    intro w18 hw5
    replace hS := Step.trans hS (Step.mono hw5.step (fun i hi => .inl hi))
    replace hrow := hrow.step hw5.step (fun k hk1 hk2 (hF : k = pp) => by omega)
    replace hbk := BksW.step hbk hw5.step (fun p hp hF => by have h9 := hbl _ p hp; have h8 := hbp _ p hp; have hF : p.2 = pp := hF; omega)
    replace hmk1 := hmk1.step hw5.step (show ¬ w3.heap.size = pp by omega)
    have ho7 := hw5.own
    refine Ve (Vn (Vrp (VC_ret ?_)))
    refine VrM (I6 1) (Ds := [w3.heap.size]) ⟨hmk1, (by simp), trivial⟩ ?_
    intro w19 hq2
    replace hq2 : Step (Just w3.heap.size) w18 w19 := Step.mono hq2 (fun i hi => by simpa using hi)
    replace hS := Step.transNew hS hq2 (fun i hi hF => by have hF9 : i = w3.heap.size := hF; omega)
    replace hrow := hrow.step hq2 (fun k hk1 hk2 (hF : k = w3.heap.size) => by omega)
    replace hbk := BksW.step hbk hq2 (fun p hp hF => by have h9 := hbl _ p hp; have h8 := hbp _ p hp; have hF : p.2 = w3.heap.size := hF; omega)
    replace ho7 := ho7.step hq2 (show ¬ pp = w3.heap.size by omega)
    exact ⟨congrArg (Value.int .i64) TAd6ad, ptake_done clp hX hI hv ho7 hrow hbk hS (.inr ⟨by decide, rfl, rfl⟩)⟩
  ·refine Ve (Vn (Vf (VC_skip (Vn (Vs (Vd 8 [(3, Pt pp 2), (4, I6 c0)] [3, 4] ?_ ?_))))))
   ·intro w20 hs5
    replace hpp := hpp.no hs5
    exact ⟨Dv (Pt pp 2) (Det1_index (d := 44) (b := pp) (o := 2) (len := 4) (sz := 1) (m := 0) (by kernel_rfl) (by kernel_rfl) 0 (by rfl) (by omega) 2 (by omega)), Dl hpp, trivial⟩
   intro w20 hs5
   replace hS := stepP_no hS hs5
   replace hpp := hpp.no hs5
   replace hrow := hrow.step hs5 (fun k hk1 hk2 hF => hF)
   replace hbk := BksW.no hbk hs5
   replace hmk1 := hmk1.no hs5
   refine VL_index (d := 49) (b := pp) (o := 2) (len := 4) (sz := 1) (m := 0) (by kernel_rfl) (by kernel_rfl) 0 (by rfl) (by omega) 2 (by omega) (Vst 9 (o := 2) [I6 (IntKind.wrap .i64 (c0 + 1))] hpp #[Bo a, .slice (some ⟨rb, 0, none⟩) l.length c, I6 (IntKind.wrap .i64 (c0 + 1)), I6 c1, I6 c2, I6 c3] ?_)
   intro w21 hw6
   replace hS := Step.trans hS (Step.mono hw6.step (fun i hi => .inl hi))
   replace hrow := hrow.step hw6.step (fun k hk1 hk2 (hF : k = pp) => by omega)
   replace hbk := BksW.step hbk hw6.step (fun p hp hF => by have h9 := hbl _ p hp; have h8 := hbp _ p hp; have hF : p.2 = pp := hF; omega)
   replace hmk1 := hmk1.step hw6.step (show ¬ w3.heap.size = pp by omega)
   have ho8 := hw6.own
   refine Ve (Vn (Vs (Vd 9 [(4, Pt pp 3), (5, I6 c1)] [4, 5] ?_ ?_)))
   ·intro w22 hs6
    replace ho8 := ho8.no hs6
    exact ⟨Dv (Pt pp 3) (Det1_index (d := 54) (b := pp) (o := 2) (len := 4) (sz := 1) (m := 1) (by kernel_rfl) (by kernel_rfl) 1 (by rfl) (by omega) 3 (by omega)), Dl ho8, trivial⟩
   intro w22 hs6
   replace hS := stepP_no hS hs6
   replace hrow := hrow.step hs6 (fun k hk1 hk2 hF => hF)
   replace hbk := BksW.no hbk hs6
   replace hmk1 := hmk1.no hs6
   replace ho8 := ho8.no hs6
   refine VL_index (d := 59) (b := pp) (o := 2) (len := 4) (sz := 1) (m := 1) (by kernel_rfl) (by kernel_rfl) 1 (by rfl) (by omega) 3 (by omega) (Vst 10 (o := 3) [I6 (IntKind.wrap .i64 (c1 + 1))] ho8 #[Bo a, .slice (some ⟨rb, 0, none⟩) l.length c, I6 (IntKind.wrap .i64 (c0 + 1)), I6 (IntKind.wrap .i64 (c1 + 1)), I6 c2, I6 c3] ?_)
   intro w23 hw7
   replace hS := Step.trans hS (Step.mono hw7.step (fun i hi => .inl hi))
   replace hrow := hrow.step hw7.step (fun k hk1 hk2 (hF : k = pp) => by omega)
   replace hbk := BksW.step hbk hw7.step (fun p hp hF => by have h9 := hbl _ p hp; have h8 := hbp _ p hp; have hF : p.2 = pp := hF; omega)
   replace hmk1 := hmk1.step hw7.step (show ¬ w3.heap.size = pp by omega)
   have ho9 := hw7.own
   refine Ve (Vn (Vrp (VC_ret ?_)))
   refine VrM (I6 1) (Ds := [w3.heap.size]) ⟨hmk1, (by simp), trivial⟩ ?_
   intro w24 hq3
   replace hq3 : Step (Just w3.heap.size) w23 w24 := Step.mono hq3 (fun i hi => by simpa using hi)
   replace hS := Step.transNew hS hq3 (fun i hi hF => by have hF9 : i = w3.heap.size := hF; omega)
   replace hrow := hrow.step hq3 (fun k hk1 hk2 (hF : k = w3.heap.size) => by omega)
   replace hbk := BksW.step hbk hq3 (fun p hp hF => by have h9 := hbl _ p hp; have h8 := hbp _ p hp; have hF : p.2 = w3.heap.size := hF; omega)
   replace ho9 := ho9.step hq3 (show ¬ pp = w3.heap.size by omega)
   exact ⟨congrArg (Value.int .i64) TAd6ad, ptake_done clp hX hI hv ho9 hrow hbk hS (.inr ⟨by decide, rfl, rfl⟩)⟩
 ·intro e W _ hF _; exact hF.elim

theorem ptake_2 (pp rb c : Nat) (Y : Nat → Prop) (a : Bool) (c0 c1 c2 c3 t clp : Int) (l : List Rb) (w : World) (hX : PlX w pp Y a l rb c c0 c1 c2 c3) (hI : RlsI (l.map (·.1))) (hv : verdR t clp (l.map (·.1)) = 2) :
  CV Tryz.prog 45 #[Pt pp 0, I6 t, I6 clp] w (fun x w1 => x = I6 (polV a t clp (l.map (·.1))) ∧ Pl w1 pp Y a (rulesT t clp (l.map (·.1))) ∧ Step Y w w1) := by
 have hpp : Own w pp (polArr a rb l.length c c0 c1 c2 c3) 112 := hX.own
 have hrow := hX.row.sl
 have hbk : BksW w (takeK t 1 (0) l) := by rw [takeK_zero]; exact hX.bks
 have hrl := hX.row.lt
 have hbl0 := hX.bks.lt
 have hin : ∀ k (p : Rb), p ∈ takeK t 1 k l → ∃ q ∈ l, q.2 = p.2 := fun k p hp => List.mem_map.1 (by rw [← takeK_snd t 1 l k]; exact List.mem_map_of_mem hp)
 have hbl : ∀ k (p : Rb), p ∈ takeK t 1 k l → p.2 < w.heap.size := fun k p hp => by obtain ⟨q, hq, h8⟩ := hin k p hp; have h7 := hbl0 q hq; omega
 have hbp : ∀ k (p : Rb), p ∈ takeK t 1 k l → p.2 ≠ pp := fun k p hp => by obtain ⟨q, hq, h8⟩ := hin k p hp; have h7 := (hX.ne_b q hq).1; omega
 have hnrp := hX.ne_row
 have hlen : l.length < 1152921504606846976 := by have h9 := hI.1; rw [List.length_map] at h9; omega
 have hbi : ∀ y ∈ l, BkI y.1.b := fun y hy => hI.2 _ (List.mem_map_of_mem hy)
 have hS : Step (polF pp l) w w := Step.refl _ _
 have hSn : Step No w w := Step.refl _ _
 refine VCm Tryz.func45 (Vs (Vr ?_))
 refine Vx 0 3 #[I6 t] ?_
 intro b1 w1 hn1
 replace hSn := Step.trans hSn (hn1.step No)
 replace hS := stepP_no hS (hn1.step No)
 replace hpp := hpp.no (hn1.step No)
 replace hrow := hrow.step (hn1.step No) (fun k hk1 hk2 hF => hF)
 replace hbk := BksW.no hbk (hn1.step No)
 replace hrl := Nat.lt_of_lt_of_le hrl (hn1.step No).size
 have ho1 := hn1.own
 have hzhn1 := hn1.size
 have hqhn1 := hn1.eqb
 refine Ve (Vn (Vs (Vrp (Vf (VC_skip (Vn (Vs (Vr (Vl 1 ho1 (Vp 3 ?_))))))))))
 refine Vc 3 Tryz.call64 ((verdict_any pp rb c Y a c0 c1 c2 c3 t clp l _ (hX.step hSn (fun _ _ h9 => h9)) hI).mono (fun x w1 h9 => ⟨h9.1.trans (by rw [hv]), h9.2⟩ : ∀ x w1, _ → x = I6 2 ∧ Step No _ w1)) ?_
 rintro _ w2 ⟨rfl, hc1⟩
 replace hS := stepP_no hS hc1
 replace hpp := hpp.no hc1
 replace hrow := hrow.step hc1 (fun k hk1 hk2 hF => hF)
 replace hbk := BksW.no hbk hc1
 replace hrl := Nat.lt_of_lt_of_le hrl (hc1).size
 replace ho1 := ho1.no hc1
 refine Ve (Vn (Vrp (Vs (Vrp (Vt (Vr (Ve (Vn (Vs (Vrp (Vt (Vs (Vr (Vp 2 ?_))))))))))))))
 have hzl5 := ho1.lt
 refine Vc 2 Tryz.call65 (asked_any pp 1 _) ?_
 rintro _ w3 ⟨bb1, bb2, rfl, hgbb1, hgbb2, hbb1, hbb2, hc2⟩
 replace hS := stepP_no hS hc2
 replace hpp := hpp.no hc2
 replace hrow := hrow.step hc2 (fun k hk1 hk2 hF => hF)
 replace hbk := BksW.no hbk hc2
 replace hrl := Nat.lt_of_lt_of_le hrl (hc2).size
 replace ho1 := ho1.no hc2
 have hzhbb1 := hbb1.lt
 have hzhbb2 := hbb2.lt
 refine Ve (Vn (VC_block ?_))
 have hzl6 := hpp.lt
 have hzl7 := ho1.lt
 refine VC_range (gf := 75) (lb := #[Pt bb1 0, Pt bb2 0]) (xs := (askV 1 l)) (by kernel_rfl) Tryz.call75 (asked_iter bb1 bb2 pp rb c a 1 c0 c1 c2 c3 l hlen) (fun a ha => askV_sz _ _ a ha) (by kernel_rfl) (fun M i => ∃ p ∈ l, i = p.2) (fun M i ⟨p, hp, hi⟩ => by have h9 := hbl0 p hp; omega) (fun M k W => (Step (polF pp l) w W) ∧ (Own W pp #[Bo a, .slice (some ⟨rb, 0, none⟩) l.length c, I6 c0, I6 c1, I6 c2, I6 c3] 112) ∧ (Sl2 W rb (rb + 1) (some ⟨rb, 0, none⟩) (flat rlc l)) ∧ (BksW W (takeK t 1 (k) l)) ∧ (rb < W.heap.size) ∧ (Own W b1 #[I6 t] 3) ∧ (Own W bb1 #[Pt pp 0] 71) ∧ (Own W bb2 #[I6 1] 3)) (fun e W => False) TAd6aa TAd6af TAd6ab TAd6af TAd6ae (fun W hs => ⟨⟨hbb1.no hs, hbb2.no hs, hpp.no hs, hrow.step hs (fun _ _ _ h9 => h9)⟩, Nat.lt_of_lt_of_le hrl hs.size⟩) (fun M W hMm hM2 hs _ => ⟨(stepP_no hS hs), hpp.no hs, hrow.step hs (fun _ _ _ h9 => h9), (BksW.no hbk hs), Nat.lt_of_lt_of_le hrl hs.size, ho1.no hs, hbb1.no hs, hbb2.no hs⟩) ?_ ?_ ?_
 ·intro M k w4 args hM hM2 hx hJ0 hsz
  obtain ⟨hS, hpp, hrow, hbk, hrl, ho1, hbb1, hbb2⟩ := hJ0
  obtain ⟨y, hy, hym, rfl⟩ := askV_mem hx
  have hyl := hbl0 y hym
  have hyn := hX.ne_b y hym
  have hAs : Step No w4 w4 := Step.refl _ _
  refine VC_keep [4, 24] [(4, Pt b1 0), (24, .agg #[I6 y.1.step, I6 y.1.early, Bo y.1.zero, Bo y.1.tag, .iface 123 (Pt y.2 0)])] (by kernel_rfl) (Vr ?_)
  have hzl14 := hpp.lt
  have hzk4 := hrl
  have hzl15 := ho1.lt
  have hzl16 := hbb1.lt
  have hzl17 := hbb2.lt
  refine Vx 0 108 #[I6 0, I6 0, Bo false, Bo false, .nilIface] ?_
  intro b2 w5 hn2
  replace hS := stepP_no hS (hn2.step No)
  replace hpp := hpp.no (hn2.step No)
  replace hrow := hrow.step (hn2.step No) (fun k hk1 hk2 hF => hF)
  replace hbk := BksW.no hbk (hn2.step No)
  replace hrl := Nat.lt_of_lt_of_le hrl (hn2.step No).size
  replace ho1 := ho1.no (hn2.step No)
  replace hbb1 := hbb1.no (hn2.step No)
  replace hbb2 := hbb2.no (hn2.step No)
  replace hAs := Step.trans hAs (hn2.step No)
  have ho2 := hn2.own
  have hzhn2 := hn2.size
  have hqhn2 := hn2.eqb
  refine Vst 1 (o := 0) [I6 y.1.step, I6 y.1.early, Bo y.1.zero, Bo y.1.tag, .iface 123 (Pt y.2 0)] ho2 #[I6 y.1.step, I6 y.1.early, Bo y.1.zero, Bo y.1.tag, .iface 123 (Pt y.2 0)] ?_
  intro w6 hw1
  replace hS := Step.transNew hS hw1.step (fun i hi hF => by have hF9 : i = b2 := hF; omega)
  replace hpp := hpp.step hw1.step (show ¬ pp = b2 by omega)
  replace hrow := hrow.step hw1.step (fun k hk1 hk2 (hF : k = b2) => by omega)
  replace hbk := BksW.step hbk hw1.step (fun p hp hF => by have h9 := hbl _ p hp; have h8 := hbp _ p hp; have hF : p.2 = b2 := hF; omega)
  replace hrl := Nat.lt_of_lt_of_le hrl (hw1.step).size
  replace ho1 := ho1.step hw1.step (show ¬ b1 = b2 by omega)
  replace hbb1 := hbb1.step hw1.step (show ¬ bb1 = b2 by omega)
  replace hbb2 := hbb2.step hw1.step (show ¬ bb2 = b2 by omega)
  replace hAs := Step.transNew hAs hw1.step (fun _ _ _ => by omega)
  have ho3 := hw1.own
  have hzhw1 := hw1.same
  refine Ve (VQ_begin hAs ?_)
  intro w7 hb1 hzhb1
  replace hS := Step.transNew hS hb1 (fun i hi hF => by have hF9 : i = (w3.heap.size + 1) := hF; omega)
  replace hpp := hpp.step hb1 (show ¬ pp = (w3.heap.size + 1) by omega)
  replace hrow := hrow.step hb1 (fun k hk1 hk2 (hF : k = (w3.heap.size + 1)) => by omega)
  replace hbk := BksW.step hbk hb1 (fun p hp hF => by have h9 := hbl _ p hp; have h8 := hbp _ p hp; have hF : p.2 = (w3.heap.size + 1) := hF; omega)
  replace hrl := Nat.lt_of_lt_of_le hrl (hb1).size
  replace ho1 := ho1.step hb1 (show ¬ b1 = (w3.heap.size + 1) by omega)
  replace hbb1 := hbb1.step hb1 (show ¬ bb1 = (w3.heap.size + 1) by omega)
  replace hbb2 := hbb2.step hb1 (show ¬ bb2 = (w3.heap.size + 1) by omega)
  replace ho3 := ho3.step hb1 (show ¬ b2 = (w3.heap.size + 1) by omega)
  have hR1 : Step ((fun M i => ∃ p ∈ l, i = p.2) M) w7 w7 := Step.refl _ _
  refine VC_block (Vr (Vl 1 ho3 (Vl 2 ho1 ?_)))
  refine VL_invoke (d := 28) (f := 126) (args := #[Pt y.2 0, I6 t]) (by kernel_rfl) (by kernel_rfl) Tryz.call126 (btake_any y.2 y.1.b t _ (hbi _ hym) (hbk _ (takeK_mem t 1 l k y hy))) ?_
  rintro _ w8 ⟨rfl, hbo, hc3⟩
  replace hS := Step.trans hS (Step.mono hc3 (fun i hi => .inr ⟨y, hym, hi⟩))
  replace hpp := hpp.step hc3 (show ¬ pp = y.2 by omega)
  replace hrow := hrow.step hc3 (fun k hk1 hk2 (hF : k = y.2) => by omega)
  replace hrl := Nat.lt_of_lt_of_le hrl (hc3).size
  replace ho1 := ho1.step hc3 (show ¬ b1 = y.2 by omega)
  replace hbb1 := hbb1.step hc3 (show ¬ bb1 = y.2 by omega)
  replace hbb2 := hbb2.step hc3 (show ¬ bb2 = y.2 by omega)
  replace hR1 := Step.trans hR1 (Step.mono hc3 TAd6ac)
  have hbk2 := BksW.take hbk hX.nodup hy hbo hc3
  refine Ve (VQ_block_normal ?_)
  exact VQ_round_end hR1 ⟨hS, hpp, hrow, hbk2, hrl, ho1, hbb1, hbb2⟩
 ·intro M w9 hM hzM hJ0 hD
  rw [askV_lenL] at hJ0
  obtain ⟨hS, hpp, hrow, hbk, hrl, ho1, hbb1, hbb2⟩ := hJ0
  have hmk1 := hD
  refine VQ_block_normal (Vn (Vs (Vrp (Vf (VC_skip (Vn (Vs (Vd 8 [(3, Pt pp 2), (4, I6 c0)] [3, 4] ?_ ?_))))))))
  ·intro w10 hs1
   replace hpp := hpp.no hs1
   exact ⟨Dv (Pt pp 2) (Det1_index (d := 44) (b := pp) (o := 2) (len := 4) (sz := 1) (m := 0) (by kernel_rfl) (by kernel_rfl) 0 (by rfl) (by omega) 2 (by omega)), Dl hpp, trivial⟩
  intro w10 hs1
  replace hS := stepP_no hS hs1
  replace hpp := hpp.no hs1
  replace hrow := hrow.step hs1 (fun k hk1 hk2 hF => hF)
  replace hbk := BksW.no hbk hs1
  replace hmk1 := hmk1.no hs1
  refine VL_index (d := 49) (b := pp) (o := 2) (len := 4) (sz := 1) (m := 0) (by kernel_rfl) (by kernel_rfl) 0 (by rfl) (by omega) 2 (by omega) (Vst 9 (o := 2) [I6 (IntKind.wrap .i64 (c0 + 1))] hpp #[Bo a, .slice (some ⟨rb, 0, none⟩) l.length c, I6 (IntKind.wrap .i64 (c0 + 1)), I6 c1, I6 c2, I6 c3] ?_)
  intro w11 hw2
  replace hS := Step.trans hS (Step.mono hw2.step (fun i hi => .inl hi))
  replace hrow := hrow.step hw2.step (fun k hk1 hk2 (hF : k = pp) => by omega)
  replace hbk := BksW.step hbk hw2.step (fun p hp hF => by have h9 := hbl _ p hp; have h8 := hbp _ p hp; have hF : p.2 = pp := hF; omega)
  replace hmk1 := hmk1.step hw2.step (show ¬ w3.heap.size = pp by omega)
  have ho4 := hw2.own
  refine Ve (Vn (Vs (Vd 9 [(4, Pt pp 4), (5, I6 c2)] [4, 5] ?_ ?_)))
  ·intro w12 hs2
   replace ho4 := ho4.no hs2
   exact ⟨Dv (Pt pp 4) (Det1_index (d := 54) (b := pp) (o := 2) (len := 4) (sz := 1) (m := 2) (by kernel_rfl) (by kernel_rfl) 2 (by rfl) (by omega) 4 (by omega)), Dl ho4, trivial⟩
  intro w12 hs2
  replace hS := stepP_no hS hs2
  replace hrow := hrow.step hs2 (fun k hk1 hk2 hF => hF)
  replace hbk := BksW.no hbk hs2
  replace hmk1 := hmk1.no hs2
  replace ho4 := ho4.no hs2
  refine VL_index (d := 59) (b := pp) (o := 2) (len := 4) (sz := 1) (m := 2) (by kernel_rfl) (by kernel_rfl) 2 (by rfl) (by omega) 4 (by omega) (Vst 10 (o := 4) [I6 (IntKind.wrap .i64 (c2 + 1))] ho4 #[Bo a, .slice (some ⟨rb, 0, none⟩) l.length c, I6 (IntKind.wrap .i64 (c0 + 1)), I6 c1, I6 (IntKind.wrap .i64 (c2 + 1)), I6 c3] ?_)
  intro w13 hw3
  replace hS := Step.trans hS (Step.mono hw3.step (fun i hi => .inl hi))
  replace hrow := hrow.step hw3.step (fun k hk1 hk2 (hF : k = pp) => by omega)
  replace hbk := BksW.step hbk hw3.step (fun p hp hF => by have h9 := hbl _ p hp; have h8 := hbp _ p hp; have hF : p.2 = pp := hF; omega)
  replace hmk1 := hmk1.step hw3.step (show ¬ w3.heap.size = pp by omega)
  have ho5 := hw3.own
  refine Ve (Vn (Vrp (VC_ret ?_)))
  refine VrM (I6 2) (Ds := [w3.heap.size]) ⟨hmk1, (by simp), trivial⟩ ?_
  intro w14 hq1
  replace hq1 : Step (Just w3.heap.size) w13 w14 := Step.mono hq1 (fun i hi => by simpa using hi)
  replace hS := Step.transNew hS hq1 (fun i hi hF => by have hF9 : i = w3.heap.size := hF; omega)
  replace hrow := hrow.step hq1 (fun k hk1 hk2 (hF : k = w3.heap.size) => by omega)
  replace hbk := BksW.step hbk hq1 (fun p hp hF => by have h9 := hbl _ p hp; have h8 := hbp _ p hp; have hF : p.2 = w3.heap.size := hF; omega)
  replace ho5 := ho5.step hq1 (show ¬ pp = w3.heap.size by omega)
  exact ⟨congrArg (Value.int .i64) TAd6ad, ptake_done 1 hX hI hv ho5 hrow hbk hS (.inr ⟨by decide, rfl, rfl⟩)⟩
 ·intro e W _ hF _; exact hF.elim

theorem ptake_3 (pp rb c : Nat) (Y : Nat → Prop) (a : Bool) (c0 c1 c2 c3 t clp : Int) (l : List Rb) (w : World) (hX : PlX w pp Y a l rb c c0 c1 c2 c3) (hI : RlsI (l.map (·.1))) (hv : verdR t clp (l.map (·.1)) = 3) :
  CV Tryz.prog 45 #[Pt pp 0, I6 t, I6 clp] w (fun x w1 => x = I6 (polV a t clp (l.map (·.1))) ∧ Pl w1 pp Y a (rulesT t clp (l.map (·.1))) ∧ Step Y w w1) := by
 have hpp : Own w pp (polArr a rb l.length c c0 c1 c2 c3) 112 := hX.own
 have hrow := hX.row.sl
 have hbk : BksW w (takeK t clp (0) l) := by rw [takeK_zero]; exact hX.bks
 have hrl := hX.row.lt
 have hbl0 := hX.bks.lt
 have hin : ∀ k (p : Rb), p ∈ takeK t clp k l → ∃ q ∈ l, q.2 = p.2 := fun k p hp => List.mem_map.1 (by rw [← takeK_snd t clp l k]; exact List.mem_map_of_mem hp)
 have hbl : ∀ k (p : Rb), p ∈ takeK t clp k l → p.2 < w.heap.size := fun k p hp => by obtain ⟨q, hq, h8⟩ := hin k p hp; have h7 := hbl0 q hq; omega
 have hbp : ∀ k (p : Rb), p ∈ takeK t clp k l → p.2 ≠ pp := fun k p hp => by obtain ⟨q, hq, h8⟩ := hin k p hp; have h7 := (hX.ne_b q hq).1; omega
 have hpl := hpp.lt
 have hnrp := hX.ne_row
 have hlen : l.length < 1152921504606846976 := by have h9 := hI.1; rw [List.length_map] at h9; omega
 have hbi : ∀ y ∈ l, BkI y.1.b := fun y hy => hI.2 _ (List.mem_map_of_mem hy)
 have hS : Step (polF pp l) w w := Step.refl _ _
 have hSn : Step No w w := Step.refl _ _
 refine VCm Tryz.func45 (Vs (Vr ?_))
 have hzs1 := hSn.size
 have hzl1 := hpp.lt
 have hzk1 := hrl
 refine Vx 0 3 #[I6 t] ?_
 intro b1 w1 hn1
 replace hSn := Step.trans hSn (hn1.step No)
 replace hS := stepP_no hS (hn1.step No)
 replace hpp := hpp.no (hn1.step No)
 replace hrow := hrow.step (hn1.step No) (fun k hk1 hk2 hF => hF)
 replace hbk := BksW.no hbk (hn1.step No)
 replace hrl := Nat.lt_of_lt_of_le hrl (hn1.step No).size
 have ho1 := hn1.own
 have hzhn1 := hn1.size
 have hqhn1 := hn1.eqb
 refine Ve (Vn (Vs (Vrp (Vf (VC_skip (Vn (Vs (Vr (Vl 1 ho1 (Vp 3 ?_))))))))))
 have hzs2 := hSn.size
 have hzl2 := hpp.lt
 have hzl3 := ho1.lt
 refine Vc 3 Tryz.call64 ((verdict_any pp rb c Y a c0 c1 c2 c3 t clp l _ (hX.step hSn (fun _ _ h9 => h9)) hI).mono (fun x w1 h9 => ⟨h9.1.trans (by rw [hv]), h9.2⟩ : ∀ x w1, _ → x = I6 3 ∧ Step No _ w1)) ?_
 rintro _ w2 ⟨rfl, hc1⟩
 replace hS := stepP_no hS hc1
 replace hpp := hpp.no hc1
 replace hrow := hrow.step hc1 (fun k hk1 hk2 hF => hF)
 replace hbk := BksW.no hbk hc1
 replace hrl := Nat.lt_of_lt_of_le hrl (hc1).size
 replace ho1 := ho1.no hc1
 refine Ve (Vn (Vrp (Vs (Vrp (Vf (VC_skip (Vn (Vs (Vrp (Vf (VC_skip (Vn (Vs (Vs (Vr ?_)))))))))))))))
 refine Ve (Vn (Vf (VC_skip (Vn (Vs (Vd 8 [(3, Pt pp 2), (4, I6 c0)] [3, 4] ?_ ?_))))))
 ·intro w3 hs1
  replace hS := stepP_no hS hs1
  replace hpp := hpp.no hs1
  replace hrow := hrow.step hs1 (fun k hk1 hk2 hF => hF)
  replace hbk := BksW.no hbk hs1
  replace hrl := Nat.lt_of_lt_of_le hrl (hs1).size
  replace ho1 := ho1.no hs1
  exact ⟨Dv (Pt pp 2) (Det1_index (d := 44) (b := pp) (o := 2) (len := 4) (sz := 1) (m := 0) (by kernel_rfl) (by kernel_rfl) 0 (by rfl) (by omega) 2 (by omega)), Dl hpp, trivial⟩
 intro w3 hs1
 replace hS := stepP_no hS hs1
 replace hpp := hpp.no hs1
 replace hrow := hrow.step hs1 (fun k hk1 hk2 hF => hF)
 replace hbk := BksW.no hbk hs1
 replace hrl := Nat.lt_of_lt_of_le hrl (hs1).size
 replace ho1 := ho1.no hs1
 refine VL_index (d := 49) (b := pp) (o := 2) (len := 4) (sz := 1) (m := 0) (by kernel_rfl) (by kernel_rfl) 0 (by rfl) (by omega) 2 (by omega) (Vst 9 (o := 2) [I6 (IntKind.wrap .i64 (c0 + 1))] hpp #[Bo a, .slice (some ⟨rb, 0, none⟩) l.length c, I6 (IntKind.wrap .i64 (c0 + 1)), I6 c1, I6 c2, I6 c3] ?_)
 intro w4 hw1
 replace hS := Step.trans hS (Step.mono hw1.step (fun i hi => .inl hi))
 replace hrow := hrow.step hw1.step (fun k hk1 hk2 (hF : k = pp) => by omega)
 replace hbk := BksW.step hbk hw1.step (fun p hp hF => by have h9 := hbl _ p hp; have h8 := hbp _ p hp; have hF : p.2 = pp := hF; omega)
 replace hrl := Nat.lt_of_lt_of_le hrl (hw1.step).size
 replace ho1 := ho1.step hw1.step (show ¬ b1 = pp by omega)
 have ho2 := hw1.own
 have hzhw1 := hw1.same
 refine Ve (Vn (Vs (Vd 9 [(4, Pt pp 5), (5, I6 c3)] [4, 5] ?_ ?_)))
 ·intro w5 hs2
  replace hS := stepP_no hS hs2
  replace hrow := hrow.step hs2 (fun k hk1 hk2 hF => hF)
  replace hbk := BksW.no hbk hs2
  replace hrl := Nat.lt_of_lt_of_le hrl (hs2).size
  replace ho1 := ho1.no hs2
  replace ho2 := ho2.no hs2
  exact ⟨Dv (Pt pp 5) (Det1_index (d := 54) (b := pp) (o := 2) (len := 4) (sz := 1) (m := 3) (by kernel_rfl) (by kernel_rfl) 3 (by rfl) (by omega) 5 (by omega)), Dl ho2, trivial⟩
 intro w5 hs2
 replace hS := stepP_no hS hs2
 replace hrow := hrow.step hs2 (fun k hk1 hk2 hF => hF)
 replace hbk := BksW.no hbk hs2
 replace hrl := Nat.lt_of_lt_of_le hrl (hs2).size
 replace ho1 := ho1.no hs2
 replace ho2 := ho2.no hs2
 refine VL_index (d := 59) (b := pp) (o := 2) (len := 4) (sz := 1) (m := 3) (by kernel_rfl) (by kernel_rfl) 3 (by rfl) (by omega) 5 (by omega) (Vst 10 (o := 5) [I6 (IntKind.wrap .i64 (c3 + 1))] ho2 #[Bo a, .slice (some ⟨rb, 0, none⟩) l.length c, I6 (IntKind.wrap .i64 (c0 + 1)), I6 c1, I6 c2, I6 (IntKind.wrap .i64 (c3 + 1))] ?_)
 intro w6 hw2
 replace hS := Step.trans hS (Step.mono hw2.step (fun i hi => .inl hi))
 replace hrow := hrow.step hw2.step (fun k hk1 hk2 (hF : k = pp) => by omega)
 replace hbk := BksW.step hbk hw2.step (fun p hp hF => by have h9 := hbl _ p hp; have h8 := hbp _ p hp; have hF : p.2 = pp := hF; omega)
 replace hrl := Nat.lt_of_lt_of_le hrl (hw2.step).size
 replace ho1 := ho1.step hw2.step (show ¬ b1 = pp by omega)
 have ho3 := hw2.own
 have hzhw2 := hw2.same
 refine Ve (Vn (Vrp (VC_ret ?_)))
 have hzk2 := hrl
 have hzl4 := ho1.lt
 have hzl5 := ho3.lt
 refine VrM (I6 3) (Ds := []) trivial ?_
 intro w7 hq1
 replace hq1 : Step No w6 w7 := Step.mono hq1 (fun i hi => by simp at hi)
 replace hS := stepP_no hS hq1
 replace hrow := hrow.step hq1 (fun k hk1 hk2 hF => hF)
 replace hbk := BksW.no hbk hq1
 replace hrl := Nat.lt_of_lt_of_le hrl (hq1).size
 replace ho1 := ho1.no hq1
 replace ho3 := ho3.no hq1
 exact ⟨congrArg (Value.int .i64) TAd6ad, ptake_done clp hX hI hv ho3 hrow hbk hS (.inl ⟨rfl, rfl⟩)⟩

theorem ptake_any {w : World} {pp : Nat} {Y : Nat → Prop} {a : Bool} {rs : List Rl} (t clp : Int) (h : Pl w pp Y a rs) : CV Tryz.prog 45 #[.pointer (some ⟨pp, 0, none⟩), .int .i64 t, .int .i64 clp] w fun x w1 => x = .int .i64 (polV a t clp rs) ∧ Pl w1 pp Y a (rulesT t clp rs) ∧ Step Y w w1 := by
  obtain ⟨hI, l, rb, c, c0, c1, c2, c3, rfl, hX⟩ := h
  rcases verdR_cases t clp (l.map (·.1)) with hv | hv | hv
  · exact ptake_1 pp rb c Y a c0 c1 c2 c3 t clp l w hX hI hv
  · exact ptake_2 pp rb c Y a c0 c1 c2 c3 t clp l w hX hI hv
  · exact ptake_3 pp rb c Y a c0 c1 c2 c3 t clp l w hX hI hv
end Go.Proofs.YthchmlidobgkoaaGreat
end

section
/- Drawn regions: new rows whose order is open. -/
set_option linter.unusedVariables false
set_option linter.unusedSimpArgs false
namespace Go.Vc
open Go.RowKit
section
variable {r : Option Nat} {n : Nat} {ds : List Deferred} {P : Program} {ops : Array Oper} {Q : Exit → Act → World → Prop} {l : List (Nat × Value)} {w : World}
end
end Go.Vc
end

section
/- Drawn regions: rows of flat elements whose order is open. -/
set_option linter.unusedVariables false
set_option linter.unusedSimpArgs false
namespace Go.Vc
open Go.RowKit
section
variable {r : Option Nat} {n : Nat} {ds : List Deferred} {P : Program} {ops : Array Oper} {Q : Exit → Act → World → Prop} {l : List (Nat × Value)} {w : World}
end
end Go.Vc
end
