/- The calculus' fifth part: '==' on structs and arrays of numbers and bools. -/
import Derived.Test.YtfkahhkojlfmdaaVc4
set_option linter.unusedVariables false
set_option linter.unusedSimpArgs false
namespace Go.Vc
open Go.RowKit

/-- A cell of a type's: a number of a kind, or a bool. -/
inductive Leaf where
  | int (k : IntKind)
  | bool
def Leaf.has : Leaf → Value → Prop
  | .int k, v => ∃ a, v = .int k a
  | .bool, v => ∃ b, v = .bool b
def leafEq : Value → Value → Bool
  | .int _ a, .int _ b => a == b
  | .bool a, .bool b => a == b
  | _, _ => false
def cellsEq : List Value → List Value → Bool
  | [], [] => true
  | x :: xs, y :: ys => leafEq x y && cellsEq xs ys
  | _, _ => false
def CellsAre : List Value → List Leaf → Prop
  | [], [] => True
  | v :: vs, k :: ks => k.has v ∧ CellsAre vs ks
  | _, _ => False

theorem CellsAre.length {vs : List Value} {ks : List Leaf} (h : CellsAre vs ks) : vs.length = ks.length := by
  induction vs generalizing ks with
  | nil => cases ks with
    | nil => rfl
    | cons => exact h.elim
  | cons v vs ih => cases ks with
    | nil => exact h.elim
    | cons k ks => simp [ih h.2]
theorem CellsAre.append {a b : List Value} {ka kb : List Leaf} (h : CellsAre a ka) (h' : CellsAre b kb) : CellsAre (a ++ b) (ka ++ kb) := by
  induction a generalizing ka with
  | nil => cases ka with
    | nil => exact h'
    | cons => exact h.elim
  | cons v vs ih => cases ka with
    | nil => exact h.elim
    | cons k ks => exact ⟨h.1, ih h.2⟩
theorem CellsAre.split {vs : List Value} {ka kb : List Leaf} (h : CellsAre vs (ka ++ kb)) : CellsAre (vs.take ka.length) ka ∧ CellsAre (vs.drop ka.length) kb := by
  induction ka generalizing vs with
  | nil => exact ⟨trivial, h⟩
  | cons k ks ih =>
    cases vs with
    | nil => exact h.elim
    | cons v vs => obtain ⟨h1, h2⟩ := ih h.2; exact ⟨⟨h.1, h1⟩, h2⟩
theorem cellsEq_append {a b a' b' : List Value} (h : a.length = a'.length) : cellsEq (a ++ b) (a' ++ b') = (cellsEq a a' && cellsEq b b') := by
  induction a generalizing a' with
  | nil => cases a' with
    | nil => simp [cellsEq]
    | cons => cases h
  | cons x xs ih => cases a' with
    | nil => cases h
    | cons y ys => simp only [List.cons_append, cellsEq, ih (by simpa using h), Bool.and_assoc]
theorem leafEq_iff {k : Leaf} {x y : Value} (hx : k.has x) (hy : k.has y) : leafEq x y = true ↔ x = y := by
  cases k <;> obtain ⟨a, rfl⟩ := hx <;> obtain ⟨b, rfl⟩ := hy <;> simp [leafEq]
theorem cellsEq_iff {xs ys : List Value} {ks : List Leaf} (hx : CellsAre xs ks) (hy : CellsAre ys ks) : cellsEq xs ys = true ↔ xs = ys := by
  induction xs generalizing ys ks with
  | nil =>
    cases ks with
    | nil => cases ys with
      | nil => simp [cellsEq]
      | cons => exact hy.elim
    | cons => exact hx.elim
  | cons x xs ih =>
    cases ks with
    | nil => exact hx.elim
    | cons k ks => cases ys with
      | nil => exact hy.elim
      | cons y ys => simp only [cellsEq, Bool.and_eq_true, List.cons.injEq, leafEq_iff hx.1 hy.1, ih hx.2 hy.2]

def rep {α : Type} : Nat → List α → List α
  | 0, _ => []
  | n + 1, l => l ++ rep n l
def fieldLeaves (P : Program) (f : TypeId → Option (List Leaf)) : List Field → Nat → Option (List Leaf)
  | [], _ => some []
  | x :: r, off => match f x.type, (P.info? x.type).map (·.size) with
    | some ls, some sz => bif Nat.beq ls.length sz && Nat.beq x.offset off && !(x.name == "_") then match fieldLeaves P f r (off + sz) with
        | some ls' => some (ls ++ ls')
        | none => none
      else none
    | _, _ => none
/-- A type's cells, if it is made of numbers and bools alone. -/
def leaves (P : Program) : Nat → TypeId → Option (List Leaf)
  | 0, _ => none
  | d + 1, t => match P.underlying t with
    | some (.int k) => some [.int k]
    | some .bool => some [.bool]
    | some (.struct fs) => bif P.stoodInHeld t then none else fieldLeaves P (leaves P d) fs.toList 0
    | some (.array len elem) => match leaves P d elem, (P.info? elem).map (·.size) with
      | some ls, some sz => bif Nat.beq ls.length sz then some (rep len ls) else none
      | _, _ => none
    | _ => none

def isAggB (P : Program) (t : TypeId) : Bool := match P.underlying t with
  | some (.struct _) | some (.array ..) => true
  | _ => false
def asVal (P : Program) (t : TypeId) (cs : List Value) : Value := bif isAggB P t then .agg cs.toArray else cs.headD undef

theorem run_isAggB {P : Program} {t : TypeId} {d : Nat} {ls : List Leaf} (h : leaves P d t = some ls) (w : World) : (isAgg t).run P w = .ok (isAggB P t) w := by
  cases d with
  | zero => cases h
  | succ d =>
    simp only [leaves] at h
    unfold isAgg underlying program isAggB
    cases hu : P.underlying t with
    | none => rw [hu] at h; cases h
    | some x => rw [hu] at h; cases x <;> simp_all [Sem.run]
theorem leaves_one {P : Program} {t : TypeId} {d : Nat} {ls : List Leaf} (h : leaves P d t = some ls) (hb : isAggB P t = false) : ls.length = 1 := by
  cases d with
  | zero => cases h
  | succ d =>
    simp only [leaves] at h
    unfold isAggB at hb
    cases hu : P.underlying t with
    | none => rw [hu] at h; cases h
    | some x =>
      rw [hu] at h hb
      cases x <;> simp at hb <;> simp at h
      all_goals (subst h; rfl)

theorem run_part {P : Program} {t : TypeId} {d : Nat} {ls : List Leaf} (h : leaves P d t = some ls) (hsz : (P.info? t).map (·.size) = some ls.length) (cs : List Value) (off : Nat) (ho : off + ls.length ≤ cs.length) (w : World) :
    (part t cs.toArray off).run P w = .ok (asVal P t ((cs.drop off).take ls.length)) w := by
  obtain ⟨inf, hinf, hs⟩ := Option.map_eq_some_iff.1 hsz
  unfold part asVal
  simp only [Sem.run_bind, run_isAggB h w, Result.andThen_ok]
  cases hb : isAggB P t with
  | true =>
    simp only [if_true, Sem.run_bind, run_sizeOf hinf, Result.andThen_ok, Sem.run_pure, cond_true, hs]
    congr 2
    apply Array.ext_getElem?
    intro j
    simp [Array.getElem?_extract, List.getElem?_take, List.getElem?_drop]
  | false =>
    have h1 := leaves_one h hb
    have hlt : off < cs.length := by omega
    simp only [Bool.false_eq_true, if_false, cond_false]
    rw [List.getElem?_toArray, List.getElem?_eq_getElem hlt]
    simp only [Sem.run_pure]
    rw [h1, List.drop_eq_getElem_cons hlt]
    rfl

theorem eq_fields {P : Program} {d : Nat} (ih : ∀ t ls xs ys, leaves P d t = some ls → CellsAre xs ls → CellsAre ys ls → ∀ e, d ≤ e → ∀ w, (Op.equalIn e t (asVal P t xs) (asVal P t ys)).run P w = .ok (cellsEq xs ys) w) (e : Nat) (he : d ≤ e) (xs ys : List Value) (fs : List Field) :
    ∀ (off : Nat) (ls : List Leaf), fieldLeaves P (leaves P d) fs off = some ls → off ≤ xs.length → off ≤ ys.length → CellsAre (xs.drop off) ls → CellsAre (ys.drop off) ls → ∀ w,
      Sem.run P (forIn fs ((none, ()) : Option Bool × Unit) fun f __s =>
                if f.name ≠ "_" then do
                  let __do_lift ← part f.type xs.toArray f.offset
                  let __do_lift_1 ← part f.type ys.toArray f.offset
                  let __do_lift ← Op.equalIn e f.type __do_lift __do_lift_1
                  if (!__do_lift) = true then pure (ForInStep.done (some false, ()))
                    else pure (ForInStep.yield (none, ()))
                else pure (ForInStep.yield (none, ()))) w = .ok (bif cellsEq (xs.drop off) (ys.drop off) then (none, ()) else (some false, ())) w := by
  induction fs with
  | nil =>
    intro off ls h _ _ hx hy w
    simp only [fieldLeaves, Option.some.injEq] at h
    subst h
    have h1 : xs.drop off = [] := by have := hx.length; exact List.eq_nil_of_length_eq_zero this
    have h2 : ys.drop off = [] := by have := hy.length; exact List.eq_nil_of_length_eq_zero this
    rw [h1, h2]
    simp [cellsEq]
  | cons f fs ihf =>
    intro off ls h hox hoy hx hy w
    simp only [fieldLeaves] at h
    cases hl : leaves P d f.type with
    | none => rw [hl] at h; cases h
    | some lf =>
      cases hs : (P.info? f.type).map (·.size) with
      | none => rw [hl, hs] at h; cases h
      | some sz =>
        rw [hl, hs] at h
        simp only at h
        cases hc : Nat.beq lf.length sz && Nat.beq f.offset off && !(f.name == "_") with
        | false => rw [hc] at h; cases h
        | true =>
          rw [hc] at h
          simp only [cond_true] at h
          simp only [Bool.and_eq_true, Bool.not_eq_true', beq_eq_false_iff_ne] at hc
          obtain ⟨⟨c1, c2⟩, c3⟩ := hc
          have c1 := Nat.eq_of_beq_eq_true c1
          have c2 := Nat.eq_of_beq_eq_true c2
          cases hr : fieldLeaves P (leaves P d) fs (off + sz) with
          | none => rw [hr] at h; cases h
          | some lr =>
            rw [hr] at h
            simp only [Option.some.injEq] at h
            subst h
            have hlx := hx.length
            have hly := hy.length
            simp only [List.length_drop, List.length_append] at hlx hly
            obtain ⟨x1, x2⟩ := hx.split
            obtain ⟨y1, y2⟩ := hy.split
            rw [List.drop_drop] at x2 y2
            have hpx := run_part (P := P) hl (by rw [hs, c1]) xs off (by omega) w
            have hpy := run_part (P := P) hl (by rw [hs, c1]) ys off (by omega) w
            have hq := ih f.type lf _ _ hl x1 y1 e he w
            have hn := ihf (off + sz) lr hr (by omega) (by omega) (by rw [← c1]; exact x2) (by rw [← c1]; exact y2) w
            have hsplit : cellsEq (xs.drop off) (ys.drop off) = (cellsEq ((xs.drop off).take lf.length) ((ys.drop off).take lf.length) && cellsEq (xs.drop (off + sz)) (ys.drop (off + sz))) := by
              rw [← c1, ← List.drop_drop, ← List.drop_drop, ← cellsEq_append (by simp; omega), List.take_append_drop, List.take_append_drop]
            rw [hsplit]
            simp only [List.forIn_cons, if_pos c3, c2, bind_assoc]
            simp only [Sem.run_bind, hpx, hpy, hq, Result.andThen_ok]
            cases hb : cellsEq ((xs.drop off).take lf.length) ((ys.drop off).take lf.length) with
            | false => simp
            | true =>
              simp only [Bool.not_true, Bool.false_eq_true, if_false, pure_bind, Bool.true_and]
              rw [← hn]
              simp only [Sem.run_bind, Sem.run_pure, Result.andThen_ok]

theorem eq_elems {P : Program} {d : Nat} (ih : ∀ t ls xs ys, leaves P d t = some ls → CellsAre xs ls → CellsAre ys ls → ∀ e, d ≤ e → ∀ w, (Op.equalIn e t (asVal P t xs) (asVal P t ys)).run P w = .ok (cellsEq xs ys) w) (e : Nat) (he : d ≤ e) (elem : TypeId) (ls : List Leaf) (sz : Nat) (hl : leaves P d elem = some ls) (hs : (P.info? elem).map (·.size) = some sz) (hc : ls.length = sz) (xs ys : List Value) (k : Nat) :
    ∀ (i : Nat), i * sz ≤ xs.length → i * sz ≤ ys.length → CellsAre (xs.drop (i * sz)) (rep k ls) → CellsAre (ys.drop (i * sz)) (rep k ls) → ∀ w,
      Sem.run P (forIn (List.range' i k) ((none, ()) : Option Bool × Unit) fun i __s => do
              let __do_lift ← part elem xs.toArray (i * sz)
              let __do_lift_1 ← part elem ys.toArray (i * sz)
              let __do_lift ← Op.equalIn e elem __do_lift __do_lift_1
              if (!__do_lift) = true then pure (ForInStep.done (some false, ())) else pure (ForInStep.yield (none, ()))) w = .ok (bif cellsEq (xs.drop (i * sz)) (ys.drop (i * sz)) then (none, ()) else (some false, ())) w := by
  induction k with
  | zero =>
    intro i _ _ hx hy w
    have h1 : xs.drop (i * sz) = [] := List.eq_nil_of_length_eq_zero hx.length
    have h2 : ys.drop (i * sz) = [] := List.eq_nil_of_length_eq_zero hy.length
    rw [h1, h2]
    simp [cellsEq]
  | succ k ihk =>
    intro i hox hoy hx hy w
    simp only [rep] at hx hy
    have hlx := hx.length
    have hly := hy.length
    simp only [List.length_drop, List.length_append] at hlx hly
    obtain ⟨x1, x2⟩ := hx.split
    obtain ⟨y1, y2⟩ := hy.split
    have ei : i * sz + ls.length = (i + 1) * sz := by rw [Nat.succ_mul]; omega
    rw [List.drop_drop, ei] at x2 y2
    have hpx := run_part (P := P) hl (by rw [hs, hc]) xs (i * sz) (by omega) w
    have hpy := run_part (P := P) hl (by rw [hs, hc]) ys (i * sz) (by omega) w
    have hq := ih elem ls _ _ hl x1 y1 e he w
    have hn := ihk (i + 1) (by omega) (by omega) x2 y2 w
    have hsplit : cellsEq (xs.drop (i * sz)) (ys.drop (i * sz)) = (cellsEq ((xs.drop (i * sz)).take ls.length) ((ys.drop (i * sz)).take ls.length) && cellsEq (xs.drop ((i + 1) * sz)) (ys.drop ((i + 1) * sz))) := by
      rw [← ei, ← List.drop_drop, ← List.drop_drop, ← cellsEq_append (by simp; omega), List.take_append_drop, List.take_append_drop]
    rw [hsplit]
    simp only [List.range'_succ, List.forIn_cons, bind_assoc]
    simp only [Sem.run_bind, hpx, hpy, hq, Result.andThen_ok]
    cases hb : cellsEq ((xs.drop (i * sz)).take ls.length) ((ys.drop (i * sz)).take ls.length) with
    | false => simp
    | true =>
      simp only [Bool.not_true, Bool.false_eq_true, if_false, pure_bind, Bool.true_and]
      rw [← hn]
      simp only [Sem.run_bind, Sem.run_pure, Result.andThen_ok]

theorem equalIn_run {P : Program} (d : Nat) : ∀ t ls xs ys, leaves P d t = some ls → CellsAre xs ls → CellsAre ys ls → ∀ e, d ≤ e → ∀ w, (Op.equalIn e t (asVal P t xs) (asVal P t ys)).run P w = .ok (cellsEq xs ys) w := by
  induction d with
  | zero => intro t ls xs ys h; cases h
  | succ d ih =>
    intro t ls xs ys h hx hy e he w
    obtain ⟨e, rfl⟩ : ∃ e', e = e' + 1 := ⟨e - 1, by omega⟩
    simp only [leaves] at h
    cases hu : P.underlying t with
    | none => rw [hu] at h; cases h
    | some x =>
      rw [hu] at h
      have hru := fun w => run_underlying' hu w
      cases x <;> simp only [reduceCtorEq, Option.some.injEq] at h
      case struct fs =>
        cases hst : P.stoodInHeld t with
        | true => rw [hst] at h; cases h
        | false =>
          rw [hst] at h
          simp only [cond_false] at h
          have hag : isAggB P t = true := by unfold isAggB; rw [hu]
          have hpr : Sem.run P program w = .ok P w := rfl
          have hf := eq_fields ih e (by omega) xs ys fs.toList 0 ls h (Nat.zero_le _) (Nat.zero_le _) hx hy w
          unfold Op.equalIn asVal
          simp only [hag, cond_true, Sem.run_bind, hru, Result.andThen_ok, hpr, hst, Bool.false_eq_true, if_false]
          rw [← Array.forIn_toList]
          rw [hf]
          simp only [List.drop_zero, Result.andThen_ok]
          cases cellsEq xs ys <;> rfl
      case array len elem =>
        have hag : isAggB P t = true := by unfold isAggB; rw [hu]
        unfold Op.equalIn asVal
        cases hle : leaves P d elem with
        | none => rw [hle] at h; cases h
        | some le =>
          cases hs : (P.info? elem).map (·.size) with
          | none => rw [hle, hs] at h; cases h
          | some sz =>
            rw [hle, hs] at h
            simp only at h
            cases hc : Nat.beq le.length sz with
            | false => rw [hc] at h; cases h
            | true =>
              rw [hc] at h
              simp only [cond_true, Option.some.injEq] at h
              subst h
              have hc := Nat.eq_of_beq_eq_true hc
              obtain ⟨inf, hinf, hs'⟩ := Option.map_eq_some_iff.1 hs
              have hf := eq_elems ih e (by omega) elem le sz hle hs hc xs ys len 0 (by omega) (by omega) (by simpa using hx) (by simpa using hy) w
              simp only [hag, cond_true, Sem.run_bind, hru, Result.andThen_ok, run_sizeOf hinf, hs']
              rw [Std.Legacy.Range.forIn_eq_forIn_range']
              simp only [Std.Legacy.Range.size, Nat.sub_zero, Nat.add_sub_cancel, Nat.div_one]
              rw [hf]
              simp only [Nat.zero_mul, List.drop_zero, Result.andThen_ok]
              cases cellsEq xs ys <;> rfl
      case bool =>
        subst h
        have hag : isAggB P t = false := by unfold isAggB; rw [hu]
        match xs, ys, hx, hy with
        | [x], [y], ⟨⟨a, ha⟩, _⟩, ⟨⟨b, hb⟩, _⟩ =>
          subst ha; subst hb
          unfold Op.equalIn asVal
          simp [hag, hru, cellsEq, leafEq]
      case int k =>
        subst h
        have hag : isAggB P t = false := by unfold isAggB; rw [hu]
        match xs, ys, hx, hy with
        | [x], [y], ⟨⟨a, ha⟩, _⟩, ⟨⟨b, hb⟩, _⟩ =>
          subst ha; subst hb
          unfold Op.equalIn asVal
          simp [hag, hru, cellsEq, leafEq]

theorem run_eqGuard {P : Program} {op : BinOp} {t : TypeId} {x y : Operand} {xs ys : Array Value} (h : P.eqGuardType P.depth t = false) (w : World) : (eqGuard op t x y (.agg xs) (.agg ys)).run P w = .ok () w := by
  have hpr : Sem.run P program w = .ok P w := rfl
  unfold eqGuard
  cases op <;> simp [hpr, h]

section
variable {r : Option Nat} {n : Nat} {ds : List Deferred} {P : Program} {ops : Array Oper} {Q : Exit → Act → World → Prop} {l : List (Nat × Value)} {w : World} {i : Nat} {K : List (Nat × Value) → World → Prop}
/-- '==' and '!=' on structs and arrays. -/
def eqOp (P : Program) (n : Nat) (ops : Array Oper) (l : List (Nat × Value)) (i : Nat) : Option (Nat × Bool × TypeId × Array Value × Array Value) :=
  match theOp ops l i with
  | some { dst := some d, op := .binOp op t x y _, .. } => match evL l x, evL l y with
    | .agg xs, .agg ys => bif Nat.blt d n && isAggB P t && !(P.eqGuardType P.depth t) then (match op with
      | .eql => some (d, true, t, xs, ys)
      | .neq => some (d, false, t, xs, ys)
      | _ => none) else none
    | _, _ => none
  | _ => none
theorem V1_eq {d dd : Nat} {pos : Bool} {t : TypeId} {xs ys : Array Value} {ls : List Leaf} (h : eqOp P n ops l i = some (d, pos, t, xs, ys)) (hl : leaves P dd t = some ls) (hdd : Nat.ble dd 10000 = true) (hx : CellsAre xs.toList ls) (hy : CellsAre ys.toList ls) (b : Bool) (hb : (if pos then cellsEq xs.toList ys.toList else !cellsEq xs.toList ys.toList) = b)
    (next : K ((d, .bool b) :: l) w) : V1 r n ds P ops Q i l w K := by
  unfold eqOp at h
  split at h
  · rename_i _ d' op t' x y yt ty pos' aft gd ho
    split at h
    · rename_i xs' ys' ex ey
      cases hc : Nat.blt d' n && isAggB P t' && !(P.eqGuardType P.depth t') with
      | false => rw [hc] at h; cases h
      | true =>
        rw [hc] at h
        simp only [cond_true] at h
        simp only [Bool.and_eq_true, Bool.not_eq_true'] at hc
        obtain ⟨⟨c1, c2⟩, c3⟩ := hc
        have hq : t' = t ∧ xs' = xs ∧ ys' = ys ∧ d' = d ∧ ((op = .eql ∧ pos = true) ∨ (op = .neq ∧ pos = false)) := by
          cases op <;> simp only [reduceCtorEq, Option.some.injEq, Prod.mk.injEq] at h
          · obtain ⟨rfl, rfl, rfl, rfl, rfl⟩ := h; exact ⟨rfl, rfl, rfl, rfl, .inl ⟨rfl, rfl⟩⟩
          · obtain ⟨rfl, rfl, rfl, rfl, rfl⟩ := h; exact ⟨rfl, rfl, rfl, rfl, .inr ⟨rfl, rfl⟩⟩
        obtain ⟨rfl, rfl, rfl, rfl, hop⟩ := hq
        have hg : (eqGuard op t' x y (.agg xs') (.agg ys')).run P w = .ok () w := run_eqGuard c3 w
        have he := equalIn_run (P := P) dd t' ls xs'.toList ys'.toList hl hx hy Op.maxDepth (Nat.le_of_ble_eq_true hdd) w
        simp only [asVal, c2, cond_true] at he
        have he : (Op.equal t' (.agg xs') (.agg ys')).run P w = .ok (cellsEq xs'.toList ys'.toList) w := he
        refine V1_value ho rfl c1 ?_ next
        rcases hop with ⟨rfl, rfl⟩ | ⟨rfl, rfl⟩
        · simp only [execOp, ex, ey, Sem.run_bind, hg, Result.andThen_ok, binOp, he, Sem.run_pure]
          rw [← hb]; rfl
        · simp only [execOp, ex, ey, Sem.run_bind, hg, Result.andThen_ok, binOp, he, Sem.run_pure]
          rw [← hb]; rfl
    · cases h
  · cases h
theorem VL_agEq {d dd : Nat} {pos : Bool} {t : TypeId} {xs ys : Array Value} {ls : List Leaf} (h : eqOp P n ops l i = some (d, pos, t, xs, ys)) (hi : Nat.blt i ops.size = true) (hl : leaves P dd t = some ls) (hdd : Nat.ble dd 10000 = true) (hx : CellsAre xs.toList ls) (hy : CellsAre ys.toList ls) (b : Bool) (hb : (if pos then cellsEq xs.toList ys.toList else !cellsEq xs.toList ys.toList) = b)
    (next : VL r n ds P ops Q (i + 1) ((d, .bool b) :: l) w) : VL r n ds P ops Q i l w := VL_of_V1 hi (V1_eq h hl hdd hx hy b hb next)
theorem Det1_eq {d dd k : Nat} {pos : Bool} {t : TypeId} {xs ys : Array Value} {ls : List Leaf} (h : eqOp P n ops l k = some (d, pos, t, xs, ys)) (hd : dstOf ops k = some d) (hl : leaves P dd t = some ls) (hdd : Nat.ble dd 10000 = true) (hx : CellsAre xs.toList ls) (hy : CellsAre ys.toList ls) (b : Bool) (hb : (if pos then cellsEq xs.toList ys.toList else !cellsEq xs.toList ys.toList) = b) :
    Det1 r n ds P ops Q w l k (.bool b) := V1_eq h hl hdd hx hy b hb ⟨d, hd, look_head, Step.refl _ _⟩
end
end Go.Vc
