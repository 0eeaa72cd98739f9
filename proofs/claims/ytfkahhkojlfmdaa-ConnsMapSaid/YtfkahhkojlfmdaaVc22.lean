/- The calculus' twenty-second part: an element of an array's value; rows and views of elements of several cells, told by a list. -/
import Derived.Test.YtfkahhkojlfmdaaVc17
set_option linter.unusedVariables false
set_option linter.unusedSimpArgs false
namespace Go.Vc
open Go.RowKit
section
variable {r : Option Nat} {n : Nat} {ds : List Deferred} {P : Program} {ops : Array Oper} {Q : Exit → Act → World → Prop} {l : List (Nat × Value)} {w : World} {i : Nat} {K : List (Nat × Value) → World → Prop}
def ixAOp (P : Program) (n : Nat) (ops : Array Oper) (l : List (Nat × Value)) (i : Nat) : Option (Nat × TypeId × Nat × Array Value × Int) :=
  match theOp ops l i with
  | some { dst := some d, op := .index t x y, .. } => match P.underlying t, evL l x, evL l y with
    | some (.array len e), .agg cs, .int .i64 m => bif Nat.blt d n then some (d, e, len, cs, m) else none
    | _, _, _ => none
  | _ => none
theorem V1_ixA {d len sz e : Nat} {cs : Array Value} {m : Int} (h : ixAOp P n ops l i = some (d, e, len, cs, m)) (ha : aggB P e = some sz) (j : Nat) (hm : m = (j : Nat)) (hj : j < len) (v : Array Value) (hv : cs.extract (j * sz) (j * sz + sz) = v) (next : K ((d, .agg v) :: l) w) : V1 r n ds P ops Q i l w K := by
  unfold ixAOp at h
  split at h
  · rename_i _ d' t x y ty pos aft gd ho
    split at h
    · rename_i len' e' cs' m' hu hx hy
      cases hb : Nat.blt d' n with
      | false => rw [hb] at h; cases h
      | true =>
        rw [hb] at h
        simp only [cond_true, Option.some.injEq, Prod.mk.injEq] at h
        obtain ⟨rfl, rfl, rfl, rfl, rfl⟩ := h
        refine V1_value ho rfl hb ?_ next
        subst hm; subst hv
        have hi : (P.info? e').map (·.size) = some sz := by
          unfold aggB at ha
          split at ha <;> first | exact ha | cases ha
        obtain ⟨inf, hinf, hsz⟩ := Option.map_eq_some_iff.1 hi
        have h0 : (0 : Int) ≤ (j : Int) ∧ (j : Int) < (len' : Nat) := ⟨by omega, by omega⟩
        simp only [execOp, Instr.index, hx, hy, asIntOf, Sem.run_bind, Sem.run_pure, Result.andThen_ok, run_underlying' hu, h0, and_self, if_true, run_sizeOf hinf, hsz, part, run_isAgg_agg ha, Int.toNat_natCast]
    · cases h
  · cases h
theorem VL_ixA {d len sz e : Nat} {cs : Array Value} {m : Int} (h : ixAOp P n ops l i = some (d, e, len, cs, m)) (hi : Nat.blt i ops.size = true) (ha : aggB P e = some sz) (j : Nat) (hm : m = (j : Nat)) (hj : j < len) (v : Array Value) (hv : cs.extract (j * sz) (j * sz + sz) = v) (next : VL r n ds P ops Q (i + 1) ((d, .agg v) :: l) w) : VL r n ds P ops Q i l w :=
  VL_of_V1 hi (V1_ixA h ha j hm hj v hv next)
end
/-- Elements, side by side: enc: the cells of one. -/
def flat {α : Type} (enc : α → List Value) (xs : List α) : List Value := xs.flatMap enc
section
variable {α : Type} {enc : α → List Value} {sz : Nat}
theorem flat_cons (x : α) (xs : List α) : flat enc (x :: xs) = enc x ++ flat enc xs := rfl
theorem flat_append (xs ys : List α) : flat enc (xs ++ ys) = flat enc xs ++ flat enc ys := by simp [flat]
theorem flat_one (x : α) : flat enc [x] = enc x := by simp [flat]
theorem flat_len (h : ∀ x, (enc x).length = sz) (xs : List α) : (flat enc xs).length = xs.length * sz := by
  induction xs with
  | nil => simp [flat]
  | cons x xs ih => rw [flat_cons, List.length_append, ih, h, List.length_cons, Nat.add_mul, Nat.one_mul, Nat.add_comm]
theorem flat_get (h : ∀ x, (enc x).length = sz) (xs : List α) (i c : Nat) (hc : c < sz) : (flat enc xs)[i * sz + c]? = (xs[i]?).bind fun x => (enc x)[c]? := by
  induction xs generalizing i with
  | nil => simp [flat]
  | cons x xs ih =>
    rw [flat_cons]
    cases i with
    | zero => rw [Nat.zero_mul, Nat.zero_add, List.getElem?_append_left (by rw [h]; exact hc)]; simp
    | succ i =>
      rw [List.getElem?_append_right (by rw [h, Nat.add_mul, Nat.one_mul]; omega), h, show (i + 1) * sz + c - sz = i * sz + c by rw [Nat.add_mul, Nat.one_mul]; omega, ih]
      simp
theorem flat_at (h : ∀ x, (enc x).length = sz) {xs : List α} {i : Nat} {x : α} (hx : xs[i]? = some x) (c : Nat) (hc : c < sz) : (flat enc xs)[i * sz + c]? = (enc x)[c]? := by rw [flat_get h xs i c hc, hx]; rfl
theorem flat_take (h : ∀ x, (enc x).length = sz) (xs : List α) (k : Nat) : flat enc (xs.take k) = (flat enc xs).take (k * sz) := by
  induction xs generalizing k with
  | nil => simp [flat]
  | cons x xs ih =>
    cases k with
    | zero => simp [flat]
    | succ k =>
      rw [List.take_succ_cons, flat_cons, flat_cons, ih, List.take_append, h, List.take_of_length_le (l := enc x) (by rw [h, Nat.add_mul, Nat.one_mul]; omega)]
      congr 2
      rw [Nat.add_mul, Nat.one_mul]; omega
theorem flat_drop (h : ∀ x, (enc x).length = sz) (xs : List α) (k : Nat) : flat enc (xs.drop k) = (flat enc xs).drop (k * sz) := by
  induction xs generalizing k with
  | nil => simp [flat]
  | cons x xs ih =>
    cases k with
    | zero => simp
    | succ k =>
      rw [List.drop_succ_cons, flat_cons, ih, List.drop_append, h, List.drop_of_length_le (l := enc x) (by rw [h, Nat.add_mul, Nat.one_mul]; omega), List.nil_append]
      congr 1
      rw [Nat.add_mul, Nat.one_mul]; omega
theorem flat_cut (h : ∀ x, (enc x).length = sz) (xs : List α) (L N : Nat) : ((flat enc xs).drop (L * sz)).take (N * sz) = flat enc ((xs.drop L).take N) := by rw [flat_take h, flat_drop h]
theorem flat_one' (h : ∀ x, ∀ u ∈ enc x, oneC u = true) (xs : List α) : ∀ u ∈ flat enc xs, oneC u = true := by
  intro u hu
  obtain ⟨x, _, hx⟩ := List.mem_flatMap.1 hu
  exact h x u hx
variable {w w' : World} {B : Nat} {A : Option Addr} {P : Program} {t : TypeId}
theorem RwS.keepG {F : Nat → Prop} {base e g n c : Nat} {xs : List Value} (h : RwS w sz base e (some ⟨g, 0, none⟩) n c xs) (hs : Step F w w') (hF : ¬ F g) : RwS w' sz base e (some ⟨g, 0, none⟩) n c xs :=
  h.keepO hs fun k hk => by
    obtain ⟨a, h1, h2⟩ := hk
    cases h1
    rw [← h2]; exact hF
/-- An element that lies in a view: its cells, whole or one by one. -/
theorem Sl.flatAgg {b o : Nat} {xs : List α} (h : Sl w B (some ⟨b, o, none⟩) (flat enc xs)) (hs : ∀ x, (enc x).length = sz) {i : Nat} {x : α} (hx : xs[i]? = some x) (off m : Nat) (ht : aggB P t = some m) (hm : off + m ≤ sz) (o' : Nat) (ho : o' = o + i * sz + off) : Loads P t w ⟨b, o', none⟩ (.agg (((enc x).drop off).take m).toArray) := by
  subst ho
  refine Loads.cells ht _ (by simp [hs]; omega) fun j hj => ?_
  rw [add_none]
  have h1 := flat_at hs hx (off + j) (by omega)
  have hlt : off + j < (enc x).length := by rw [hs]; omega
  rw [List.getElem?_eq_getElem hlt] at h1
  have := h.get _ _ h1
  rw [show o + (i * sz + (off + j)) = o + i * sz + off + j by omega] at this
  rw [this]
  simp [hj, List.getElem?_eq_getElem hlt]
theorem Sl.flatOne {b o : Nat} {xs : List α} (h : Sl w B (some ⟨b, o, none⟩) (flat enc xs)) (hs : ∀ x, (enc x).length = sz) {i : Nat} {x : α} (hx : xs[i]? = some x) (off : Nat) {v : Value} (hv : (enc x)[off]? = some v) (hoff : off < sz) (ht : oneB P t = true) (o' : Nat) (ho : o' = o + i * sz + off) : Loads P t w ⟨b, o', none⟩ v := by
  subst ho
  have h1 := flat_at hs hx off hoff
  rw [hv] at h1
  have := h.get _ _ h1
  refine Loads.one ht ?_
  rw [← this]; congr 2; omega
end
end Go.Vc
