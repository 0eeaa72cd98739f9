/- The calculus' fourth part: drawn regions whose values are settled; tests on what is known; words for numbers. -/
import Derived.Test.YtfkahhkojlfmdaaVc3
set_option linter.unusedVariables false
set_option linter.unusedSimpArgs false
namespace Go.Vc
open Go.RowKit

/-! ### 1. Words for numbers -/
def imax (x y : Int) : Int := if y > x then y else x
def imin (x y : Int) : Int := if y < x then y else x
theorem imax_eq (x y : Int) : imax x y = max x y := by unfold imax; omega
theorem imin_eq (x y : Int) : imin x y = min x y := by unfold imin; omega
def bAnd (k : IntKind) (x y : Int) : Int := k.wrap ((BitVec.ofInt k.bits x &&& BitVec.ofInt k.bits y).toNat : Int)
def bOr (k : IntKind) (x y : Int) : Int := k.wrap ((BitVec.ofInt k.bits x ||| BitVec.ofInt k.bits y).toNat : Int)
def bXor (k : IntKind) (x y : Int) : Int := k.wrap ((BitVec.ofInt k.bits x ^^^ BitVec.ofInt k.bits y).toNat : Int)
def bAndNot (k : IntKind) (x y : Int) : Int := k.wrap ((BitVec.ofInt k.bits x &&& ~~~BitVec.ofInt k.bits y).toNat : Int)
theorem wrap_i64 (x : Int) (h : -9223372036854775808 ≤ x) (h' : x < 9223372036854775808) : IntKind.wrap .i64 x = x := by
  rw [IntKind.wrap_i64]; omega

section
variable {r : Option Nat} {n : Nat} {ds : List Deferred} {P : Program} {ops : Array Oper} {Q : Exit → Act → World → Prop} {l : List (Nat × Value)} {w : World} {i : Nat}

/-! ### 2. A Bool that stands in the live list -/
theorem VL_bool (b : Bool) (f : Bool → List (Nat × Value)) (h : l = f b) (ht : b = true → VL r n ds P ops Q i (f true) w) (hf : b = false → VL r n ds P ops Q i (f false) w) : VL r n ds P ops Q i l w := by
  subst h
  cases b with
  | true => exact ht rfl
  | false => exact hf rfl
theorem VL_dec (p : Prop) [Decidable p] (f : Bool → List (Nat × Value)) (h : l = f (decide p)) (ht : p → VL r n ds P ops Q i (f true) w) (hf : ¬p → VL r n ds P ops Q i (f false) w) : VL r n ds P ops Q i l w :=
  VL_bool (decide p) f h (fun e => ht (of_decide_eq_true e)) (fun e => hf (of_decide_eq_false e))
theorem VL_beq (x y : Int) (f : Bool → List (Nat × Value)) (h : l = f (x == y)) (ht : x = y → VL r n ds P ops Q i (f true) w) (hf : x ≠ y → VL r n ds P ops Q i (f false) w) : VL r n ds P ops Q i l w :=
  VL_bool (x == y) f h (fun e => ht (by simpa using e)) (fun e => hf (by simpa using e))
theorem VL_bne (x y : Int) (f : Bool → List (Nat × Value)) (h : l = f (x != y)) (ht : x ≠ y → VL r n ds P ops Q i (f true) w) (hf : x = y → VL r n ds P ops Q i (f false) w) : VL r n ds P ops Q i l w :=
  VL_bool (x != y) f h (fun e => ht (by simpa using e)) (fun e => hf (by simpa using e))
theorem VL_known (b : Bool) (f : Bool → List (Nat × Value)) (c : Bool) (h : l = f b) (hb : b = c) (hn : VL r n ds P ops Q i (f c) w) : VL r n ds P ops Q i l w := by
  subst h; subst hb; exact hn
theorem VL_eq (l' : List (Nat × Value)) (h : l = l') (hn : VL r n ds P ops Q i l' w) : VL r n ds P ops Q i l w := by subst h; exact hn
theorem VC_eqL {c : Code} (l' : List (Nat × Value)) (h : l = l') (hn : VC r n ds P Q c l' w) : VC r n ds P Q c l w := by subst h; exact hn
theorem VC_is {o : Operand} {x y : Code} {b : Bool} (c : Bool) (ho : opV l o = some (.bool b)) (hb : b = c) (hn : VC r n ds P Q (bif c then x else y) l w) : VC r n ds P Q (.cond o x y) l w := by
  subst hb
  exact VC_cond _ ho (fun e => by subst e; exact hn) (fun e => by subst e; exact hn)
theorem VC_ite_true {x y : Code} (h : VC r n ds P Q x l w) : VC r n ds P Q (bif true then x else y) l w := h
theorem VC_ite_false {x y : Code} (h : VC r n ds P Q y l w) : VC r n ds P Q (bif false then x else y) l w := h

/-! ### 3. A drawn region whose values are settled, whatever is drawn -/
def lkv (ops : Array Oper) (tbl : List (List Nat)) (m : Nat) (l : List (Nat × Value)) (vs : List Value) (k : Nat) : List (Nat × Value) :=
  (tb tbl k).filterMap (fun j => match dstOf ops j with | some d => some (d, vs.getD j undef) | none => none) ++ l.filter (fun p => baseOk ops tbl m k p.1)
def lmv (ops : Array Oper) (m : Nat) (l : List (Nat × Value)) (vs : List Value) : List (Nat × Value) :=
  (List.range m).filterMap (fun j => match dstOf ops j with | some d => some (d, vs.getD j undef) | none => none) ++ l.filter (fun p => allB m fun j => match dstOf ops j with
    | some d => !Nat.beq d p.1
    | none => true)
def pureAt (P : Program) (n : Nat) (ops : Array Oper) (l : List (Nat × Value)) (k : Nat) : Option Value :=
  match ops[k]? with
  | some o => match o.dst with
    | some d => bif Nat.blt d n then pureOp P ops l o else none
    | none => none
  | none => none

def Det1 (r : Option Nat) (n : Nat) (ds : List Deferred) (P : Program) (ops : Array Oper) (Q : Exit → Act → World → Prop) (w : World) (l : List (Nat × Value)) (k : Nat) (v : Value) : Prop :=
  V1 r n ds P ops Q k l w fun l' w'' => ∃ d, dstOf ops k = some d ∧ look l' d = some v ∧ Step No w w''

theorem look_head {l : List (Nat × Value)} {d : Nat} {v : Value} : look ((d, v) :: l) d = some v := by simp [look]

theorem filterMap_congr' {α β : Type} {f g : α → Option β} {l : List α} (h : ∀ x ∈ l, f x = g x) : l.filterMap f = l.filterMap g := by
  induction l with
  | nil => rfl
  | cons x r ih =>
    rw [List.filterMap_cons, List.filterMap_cons, h x (List.mem_cons_self ..), ih fun y hy => h y (List.mem_cons_of_mem _ hy)]
theorem map_eq_at {ks : List Nat} {f g : Nat → Option Value} (h : ks.map f = ks.map g) : ∀ k ∈ ks, f k = g k := by
  induction ks with
  | nil => intro k hk; cases hk
  | cons x r ih =>
    simp only [List.map_cons, List.cons.injEq] at h
    intro k hk
    rcases List.mem_cons.1 hk with rfl | hk
    · exact h.1
    · exact ih h.2 k hk
theorem AncAll_spec {p : Nat → Prop} {js : List Nat} (h : AncAll p js) : ∀ j ∈ js, p j := by
  induction js with
  | nil => intro j hj; cases hj
  | cons x r ih =>
    intro j hj
    rcases List.mem_cons.1 hj with rfl | hj
    · exact h.1
    · exact ih h.2 j hj
theorem HAll_of {p : Nat → Prop} {m : Nat} (h : ∀ k, k < m → p k) : HAll p m := by
  induction m with
  | zero => trivial
  | succ m ih => exact ⟨ih fun k hk => h k (by omega), h m (by omega)⟩

theorem VC_det {id : Nat} (tbl : List (List Nat)) (m : Nat) (vs : List Value) (ks js : List Nat) (hm : P.follows .mixedOrders = true) (hchk : drawChk n ops tbl m = true) (hcov : allB m (fun k => nmem k ks || nmem k js) = true)
    (hpure : (ks.map fun k => pureAt P n ops (lkv ops tbl m l vs k) k) = ks.map fun k => some (vs.getD k undef))
    (hj : ∀ w1, Step No w w1 → AncAll (fun k => Det1 r n ds P ops Q w1 (lkv ops tbl m l vs k) k (vs.getD k undef)) js)
    (tail : ∀ w1, Step No w w1 → VL r n ds P ops Q m (lmv ops m l vs) w1) : VC r n ds P Q (.region id ops true) l w := by
  have hc := drawChk_spec hchk
  have inSlots : ∀ k j d, j ∈ k :: tb tbl k → dstOf ops j = some d → ∀ ρ, rs ops tbl k ρ d = ρ d := by
    intro k j d hj hd ρ
    unfold rs slotsOf
    rw [show nmem d (List.filterMap (dstOf ops) (k :: tb tbl k)) = true from nmem_iff.2 (List.mem_filterMap.2 ⟨j, hj, hd⟩)]
    rfl
  refine VC_any tbl m hm hchk (fun x y => Step No x y) (fun x => Step.refl _ x) (fun h k => Step.trans h k) (fun j ρ _ => ∀ d, dstOf ops j = some d → ρ d = vs.getD j undef) (fun j ρ x y h _ => h) (HAll_of fun k hk => ?_) ?_
  · intro ρ w' hs hanc
    have hw' : Step No w w' := (drew_step w).trans hs
    obtain ⟨d, hd, hdn, hclob⟩ := hc.dst k hk
    have hkn : k < ops.size := by have := hc.le; omega
    have hanc' := AncAll_spec hanc
    have hl : lk ops tbl m l k ρ = lkv ops tbl m l vs k := by
      unfold lk lkv
      congr 1
      rw [List.map_filterMap]
      apply filterMap_congr'
      intro j hj
      cases hdj : dstOf ops j with
      | none => rfl
      | some dj =>
        simp only [Option.map_some, Option.some.injEq, Prod.mk.injEq, true_and]
        have := hanc' j hj dj hdj
        rw [← this, inSlots j j dj (List.mem_cons_self ..) hdj]
    rw [hl]
    have hcv := allB_spec hcov k hk
    simp only [Bool.or_eq_true] at hcv
    have fin : ∀ l' w'', (∃ d, dstOf ops k = some d ∧ look l' d = some (vs.getD k undef) ∧ Step No w' w'') → ∃ v d, dstOf ops k = some d ∧ look l' d = some v ∧ Step No w' w'' ∧ ∀ d', dstOf ops k = some d' → rs ops tbl k (upd ρ d v) d' = vs.getD k undef := by
      rintro l' w'' ⟨d0, h1, h2, h3⟩
      refine ⟨_, d0, h1, h2, h3, fun d' hd' => ?_⟩
      rw [h1] at hd'
      simp only [Option.some.injEq] at hd'
      subst hd'
      rw [inSlots k k d0 (List.mem_cons_self ..) h1]
      simp [upd]
    rcases hcv with hk1 | hk2
    · have hp := map_eq_at hpure k (nmem_iff.1 hk1)
      obtain ⟨o, ho, hod⟩ : ∃ o, ops[k]? = some o ∧ o.dst = some d := Option.bind_eq_some_iff.1 hd
      unfold pureAt at hp
      rw [ho] at hp
      simp only [hod] at hp
      rw [show Nat.blt d n = true from Nat.ble_eq_true_of_le hdn] at hp
      simp only [cond_true] at hp
      exact V1_pure ho hp hod hdn (fin _ _ ⟨d, hd, look_head, Step.refl _ _⟩)
    · have h1 := AncAll_spec (hj w' hw') k (nmem_iff.1 hk2)
      intro a ha
      refine wpOpIn_mono ?_ (h1 a ha)
      rintro a' w'' ⟨l', hl', h2⟩
      exact ⟨l', hl', fin l' w'' h2⟩
  · intro ρ w' hs hall
    have hl : lm ops m l ρ = lmv ops m l vs := by
      unfold lm lmv
      congr 1
      rw [List.map_filterMap]
      apply filterMap_congr'
      intro j hj
      cases hdj : dstOf ops j with
      | none => rfl
      | some dj =>
        simp only [Option.map_some, Option.some.injEq, Prod.mk.injEq, true_and]
        have := HAll_spec hall j (List.mem_range.1 hj) dj hdj
        rw [← this, inSlots j j dj (List.mem_cons_self ..) hdj]
    rw [hl]
    exact tail w' ((drew_step w).trans hs)

theorem Det1_load {d k : Nat} {t : TypeId} {a : Addr} {v : Value} (h : loadOp n ops l k = some (d, t, a)) (hd : dstOf ops k = some d) (hv : Loads P t w a v) : Det1 r n ds P ops Q w l k v :=
  V1_load h hv ⟨d, hd, look_head, Step.refl _ _⟩
theorem Det1_index {d k b o len sz : Nat} {m : Int} (h : indexOp P n ops l k = some (d, b, o, len, sz, m)) (hd : dstOf ops k = some d) (j : Nat) (hk : m = j) (hlt : j < len) (o' : Nat) (ho' : o + j * sz = o') : Det1 r n ds P ops Q w l k (.pointer (some ⟨b, o', none⟩)) :=
  V1_index h j hk hlt o' ho' ⟨d, hd, look_head, Step.refl _ _⟩
theorem Det1_call {d k f : Nat} {args : Array Value} {v : Value} (h : callOp ops l k = some (d, f, args)) (hd : dstOf ops k = some d) (hdn : Nat.blt d n = true) (hc : ∀ (args : Array Value) (w : World), (callFunc f args).run P w = .ok (.enter f args) w) (hcall : CV P f args w fun x w' => x = v ∧ Step No w w') : Det1 r n ds P ops Q w l k v := by
  refine V1_call h hdn hc hcall ?_
  rintro x w' ⟨rfl, hs⟩
  exact ⟨d, hd, look_head, hs⟩

/-! ### 3b. The same with new blocks among the operations: where they lie nobody knows -/
def NewAll (w w1 : World) (bs : Nat → Nat) : List (Nat × TypeId × Array Value) → Prop
  | [] => True
  | (k, t, c) :: r => (w.heap.size ≤ bs k ∧ Own w1 (bs k) c t) ∧ NewAll w w1 bs r
theorem NewAll_of {w w1 : World} {bs : Nat → Nat} {als : List (Nat × TypeId × Array Value)} (h : ∀ x ∈ als, w.heap.size ≤ bs x.1 ∧ Own w1 (bs x.1) x.2.2 x.2.1) : NewAll w w1 bs als := by
  induction als with
  | nil => trivial
  | cons x r ih => exact ⟨h x (List.mem_cons_self ..), ih fun y hy => h y (List.mem_cons_of_mem _ hy)⟩
def inAls (als : List (Nat × TypeId × Array Value)) (k : Nat) : Bool := als.any fun x => Nat.beq x.1 k
def lkm (ops : Array Oper) (tbl : List (List Nat)) (m : Nat) (l : List (Nat × Value)) (vs : List Value) (als : List (Nat × TypeId × Array Value)) (k : Nat) : List (Nat × Value) :=
  (tb tbl k).filterMap (fun j => bif inAls als j then none else match dstOf ops j with | some d => some (d, vs.getD j undef) | none => none) ++ l.filter (fun p => baseOk ops tbl m k p.1)
def lmm (ops : Array Oper) (m : Nat) (l : List (Nat × Value)) (vs : List Value) (als : List (Nat × TypeId × Array Value)) (bs : Nat → Nat) : List (Nat × Value) :=
  (List.range m).filterMap (fun j => match dstOf ops j with | some d => some (d, bif inAls als j then .pointer (some ⟨bs j, 0, none⟩) else vs.getD j undef) | none => none) ++ l.filter (fun p => allB m fun j => match dstOf ops j with
    | some d => !Nat.beq d p.1
    | none => true)
theorem Sub_of_look {l' l : List (Nat × Value)} (h : ∀ p ∈ l', look l p.1 = some p.2) : Sub l' l := by
  induction l' with
  | nil => trivial
  | cons x r ih => exact ⟨h x (List.mem_cons_self ..), ih fun y hy => h y (List.mem_cons_of_mem _ hy)⟩
theorem V1_sub {l' : List (Nat × Value)} (hs : ∀ t v, look l' t = some v → look l t = some v) {K : List (Nat × Value) → World → Prop} (h : V1 r n ds P ops Q i l' w K) : V1 r n ds P ops Q i l w K :=
  fun a ha => h a ⟨ha.size, ha.defers, fun t v hv => ha.get t v (hs t v hv)⟩
theorem look_filterMap {js : List Nat} {f : Nat → Option (Nat × Value)} {ρ : Nat → Value} {D : List Nat} (hf : ∀ j ∈ js, ∀ d v, f j = some (d, v) → ρ d = v ∧ d ∈ D) {t : Nat} {v : Value} (h : look (js.filterMap f) t = some v) : t ∈ D ∧ v = ρ t := by
  induction js with
  | nil => cases h
  | cons x r ih =>
    rw [List.filterMap_cons] at h
    cases hx : f x with
    | none => rw [hx] at h; exact ih (fun j hj => hf j (List.mem_cons_of_mem _ hj)) h
    | some p =>
      obtain ⟨d, u⟩ := p
      rw [hx] at h
      simp only [look] at h
      cases e : Nat.beq d t with
      | true =>
        rw [e] at h
        have : d = t := Nat.eq_of_beq_eq_true e
        subst this
        simp only [cond_true, Option.some.injEq] at h
        obtain ⟨h1, h2⟩ := hf x (List.mem_cons_self ..) d u hx
        exact ⟨h2, by rw [h1, h]⟩
      | false => rw [e] at h; exact ih (fun j hj => hf j (List.mem_cons_of_mem _ hj)) h
theorem look_map_mem {ts : List Nat} {ρ : Nat → Value} {t : Nat} (h : t ∈ ts) (l2 : List (Nat × Value)) : look (ts.map (fun t => (t, ρ t)) ++ l2) t = some (ρ t) := by
  induction ts with
  | nil => cases h
  | cons x r ih =>
    simp only [List.map_cons, List.cons_append, look]
    cases e : Nat.beq x t with
    | true =>
      have : x = t := Nat.eq_of_beq_eq_true e
      subst this; rfl
    | false =>
      have hne : x ≠ t := Nat.ne_of_beq_eq_false e
      rcases List.mem_cons.1 h with rfl | h
      · exact absurd rfl hne
      · exact ih h
theorem look_append_right {l1 l2 : List (Nat × Value)} {t : Nat} (h : ∀ p ∈ l1, p.1 ≠ t) : look (l1 ++ l2) t = look l2 t := by
  induction l1 with
  | nil => rfl
  | cons x r ih =>
    obtain ⟨k, u⟩ := x
    simp only [List.cons_append, look]
    have hk : k ≠ t := h (k, u) (List.mem_cons_self ..)
    cases e : Nat.beq k t with
    | true => exact absurd (Nat.eq_of_beq_eq_true e) hk
    | false => exact ih fun p hp => h p (List.mem_cons_of_mem _ hp)
theorem look_append_left {l1 l2 : List (Nat × Value)} {t : Nat} {v : Value} (h : look l1 t = some v) : look (l1 ++ l2) t = some v := by
  induction l1 with
  | nil => cases h
  | cons x r ih =>
    obtain ⟨k, u⟩ := x
    simp only [List.cons_append, look] at h ⊢
    cases e : Nat.beq k t with
    | true => rw [e] at h; exact h
    | false => rw [e] at h; exact ih h

theorem VC_mix {id : Nat} (tbl : List (List Nat)) (m : Nat) (vs : List Value) (ks js : List Nat) (als : List (Nat × TypeId × Array Value)) (hm : P.follows .mixedOrders = true) (hchk : drawChk n ops tbl m = true) (hcov : allB m (fun k => nmem k ks || nmem k js || inAls als k) = true)
    (hpure : (ks.map fun k => pureAt P n ops (lkm ops tbl m l vs als k) k) = ks.map fun k => some (vs.getD k undef)) (hks : ks.all (fun k => !inAls als k) = true)
    (hals : als.all (fun x => Nat.blt x.1 m) = true) (hnew : (als.map fun x => boxOp P n ops (lkm ops tbl m l vs als x.1) x.1) = als.map fun x => (dstOf ops x.1).map fun d => (d, x.2.1, x.2.2))
    (hj : ∀ w1, Step No w w1 → AncAll (fun k => Det1 r n ds P ops Q w1 (lkm ops tbl m l vs als k) k (vs.getD k undef)) js) (hjs : js.all (fun k => !inAls als k) = true)
    (tail : ∀ w1 bs, Step No w w1 → NewAll w w1 bs als → VL r n ds P ops Q m (lmm ops m l vs als bs) w1) : VC r n ds P Q (.region id ops true) l w := by
  have hc := drawChk_spec hchk
  have inSlots : ∀ k j d, j ∈ k :: tb tbl k → dstOf ops j = some d → ∀ ρ, rs ops tbl k ρ d = ρ d := by
    intro k j d hj hd ρ
    unfold rs slotsOf
    rw [show nmem d (List.filterMap (dstOf ops) (k :: tb tbl k)) = true from nmem_iff.2 (List.mem_filterMap.2 ⟨j, hj, hd⟩)]
    rfl
  have selfS : ∀ j d, dstOf ops j = some d → ∀ ρ, rs ops tbl j ρ d = ρ d := fun j d hd ρ => inSlots j j d (List.mem_cons_self ..) hd ρ
  let G : Nat → (Nat → Value) → World → Prop := fun j ρ w' => ∀ d, dstOf ops j = some d → (inAls als j = false → ρ d = vs.getD j undef) ∧ (∀ x ∈ als, x.1 = j → ∃ b, ρ d = .pointer (some ⟨b, 0, none⟩) ∧ w.heap.size ≤ b ∧ Own w' b x.2.2 x.2.1)
  -- the list of what an operation may read, whatever its ancestors laid
  have hsub : ∀ k, k < m → ∀ ρ w', AncAll (fun j => G j (rs ops tbl j ρ) w') (tb tbl k) → ∀ t v, look (lkm ops tbl m l vs als k) t = some v → look (lk ops tbl m l k ρ) t = some v := by
    intro k hk ρ w' hanc t v hv
    have hanc' := AncAll_spec hanc
    unfold lkm at hv
    unfold lk
    rcases look_append hv with h | h
    · obtain ⟨h1, h2⟩ := look_filterMap (ρ := ρ) (D := (tb tbl k).filterMap (dstOf ops)) (by
        intro j hj d u hu
        cases ha : inAls als j with
        | true => rw [ha] at hu; cases hu
        | false =>
          rw [ha] at hu
          simp only [cond_false] at hu
          cases hd : dstOf ops j with
          | none => rw [hd] at hu; cases hu
          | some d' =>
            rw [hd] at hu
            simp only [Option.some.injEq, Prod.mk.injEq] at hu
            obtain ⟨rfl, rfl⟩ := hu
            have := (hanc' j hj d' hd).1 ha
            rw [selfS j d' hd] at this
            exact ⟨this, List.mem_filterMap.2 ⟨j, hj, hd⟩⟩) h
      rw [h2]
      exact look_map_mem h1 _
    · by_cases ht : t ∈ (tb tbl k).filterMap (dstOf ops)
      · -- a base slot that an ancestor writes is let go
        exfalso
        obtain ⟨h1, h2⟩ := look_filter (p := fun t => baseOk ops tbl m k t) h
        obtain ⟨j, hj, hjd⟩ := List.mem_filterMap.1 ht
        have hjk := hc.lt k (by have := hc.le; omega) j hj
        have := allB_spec h2 j (by omega)
        simp only [hjd, Nat.beq_refl, Bool.not_true, Bool.false_or] at this
        have := hc.lt j (by have := hc.le; omega) k (nmem_iff.1 this)
        omega
      · rw [look_append_right]
        · exact h
        · intro p hp
          obtain ⟨t', ht', rfl⟩ := List.mem_map.1 hp
          intro e
          simp only at e
          exact ht (e ▸ ht')
  refine VC_any tbl m hm hchk (fun x y => Step No x y) (fun x => Step.refl _ x) (fun h k => Step.trans h k) G (fun j ρ x y h hs d hd => ⟨(h d hd).1, fun z hz hzj => by
    obtain ⟨b, h1, h2, h3⟩ := (h d hd).2 z hz hzj
    exact ⟨b, h1, h2, h3.no hs⟩⟩) (HAll_of fun k hk => ?_) ?_
  · intro ρ w' hs hanc
    have hw' : Step No w w' := (drew_step w).trans hs
    obtain ⟨d, hd, hdn, hclob⟩ := hc.dst k hk
    have hcv := allB_spec hcov k hk
    refine V1_sub (hsub k hk ρ w' hanc) ?_
    have noals : inAls als k = false → ∀ x ∈ als, x.1 ≠ k := by
      intro h x hx e
      have : inAls als k = true := List.any_eq_true.2 ⟨x, hx, by rw [e]; exact Nat.beq_refl k⟩
      rw [h] at this; cases this
    have fin : inAls als k = false → ∀ l' w'', (∃ d, dstOf ops k = some d ∧ look l' d = some (vs.getD k undef) ∧ Step No w' w'') → ∃ v d, dstOf ops k = some d ∧ look l' d = some v ∧ Step No w' w'' ∧ G k (rs ops tbl k (upd ρ d v)) w'' := by
      rintro hna l' w'' ⟨d0, h1, h2, h3⟩
      refine ⟨_, d0, h1, h2, h3, fun d' hd' => ⟨fun _ => ?_, fun x hx e => absurd e (noals hna x hx)⟩⟩
      rw [h1] at hd'
      simp only [Option.some.injEq] at hd'
      subst hd'
      rw [selfS k d0 h1]
      simp [upd]
    simp only [Bool.or_eq_true] at hcv
    rcases hcv with (hk1 | hk2) | hk3
    · have hmem := nmem_iff.1 hk1
      have hna : inAls als k = false := by simpa using (List.all_eq_true.1 hks) k hmem
      have hp := map_eq_at hpure k hmem
      obtain ⟨o, ho, hod⟩ : ∃ o, ops[k]? = some o ∧ o.dst = some d := Option.bind_eq_some_iff.1 hd
      unfold pureAt at hp
      rw [ho] at hp
      simp only [hod] at hp
      rw [show Nat.blt d n = true from Nat.ble_eq_true_of_le hdn] at hp
      simp only [cond_true] at hp
      exact V1_pure ho hp hod hdn (fin hna _ _ ⟨d, hd, look_head, Step.refl _ _⟩)
    · have hmem := nmem_iff.1 hk2
      have hna : inAls als k = false := by simpa using (List.all_eq_true.1 hjs) k hmem
      have h1 := AncAll_spec (hj w' hw') k hmem
      intro a ha
      refine wpOpIn_mono ?_ (h1 a ha)
      rintro a' w'' ⟨l', hl', h2⟩
      exact ⟨l', hl', fin hna l' w'' h2⟩
    · obtain ⟨x, hx, hxk⟩ := List.any_eq_true.1 hk3
      have hxk := Nat.eq_of_beq_eq_true hxk
      have hb : ∀ y ∈ als, boxOp P n ops (lkm ops tbl m l vs als y.1) y.1 = (dstOf ops y.1).map fun d => (d, y.2.1, y.2.2) := by
        have : ∀ (ags : List (Nat × TypeId × Array Value)) (f g : (Nat × TypeId × Array Value) → Option (Nat × TypeId × Array Value)), ags.map f = ags.map g → ∀ y ∈ ags, f y = g y := by
          intro ags f g
          induction ags with
          | nil => intro _ y hy; cases hy
          | cons z r ih =>
            intro h y hy
            simp only [List.map_cons, List.cons.injEq] at h
            rcases List.mem_cons.1 hy with rfl | hy
            · exact h.1
            · exact ih h.2 y hy
        exact this als _ _ hnew
      have hbx := hb x hx
      rw [hxk, hd] at hbx
      simp only [Option.map_some] at hbx
      refine V1_box hbx ?_
      intro b w1 hn
      have hs1 := hn.step No
      refine ⟨_, d, hd, look_head, hs1, fun d' hd' => ⟨(fun hna => by rw [hk3] at hna; cases hna), fun y hy hyk => ?_⟩⟩
      rw [hd] at hd'
      simp only [Option.some.injEq] at hd'
      subst hd'
      have hby := hb y hy
      rw [hyk, hd, hbx] at hby
      simp only [Option.map_some, Option.some.injEq, Prod.mk.injEq, true_and] at hby
      refine ⟨b, by rw [selfS k d hd]; simp [upd], by rw [hn.eqb]; exact hw'.size, ?_⟩
      rw [← hby.1, ← hby.2]
      exact hn.own
  · intro ρ w' hs hall
    have hall' := HAll_spec hall
    -- the blocks
    have hex : ∀ j, ∃ b, j < m → inAls als j = true → ∀ d, dstOf ops j = some d → ρ d = .pointer (some ⟨b, 0, none⟩) ∧ (∀ x ∈ als, x.1 = j → w.heap.size ≤ b ∧ Own w' b x.2.2 x.2.1) := by
      intro j
      by_cases hjm : j < m
      · cases ha : inAls als j with
        | false => exact ⟨0, fun _ h => (by cases h)⟩
        | true =>
          obtain ⟨d, hd, _, _⟩ := hc.dst j hjm
          obtain ⟨x, hx, hxk⟩ := List.any_eq_true.1 ha
          have hxk := Nat.eq_of_beq_eq_true hxk
          obtain ⟨b, h1, h2, h3⟩ := (hall' j hjm d hd).2 x hx hxk
          refine ⟨b, fun _ _ d' hd' => ?_⟩
          rw [hd] at hd'
          simp only [Option.some.injEq] at hd'
          subst hd'
          rw [selfS j d hd] at h1
          refine ⟨h1, fun y hy hyj => ?_⟩
          obtain ⟨b', g1, g2, g3⟩ := (hall' j hjm d hd).2 y hy hyj
          rw [selfS j d hd, h1] at g1
          simp only [Value.pointer.injEq, Option.some.injEq, Addr.mk.injEq, and_true] at g1
          subst g1
          exact ⟨g2, g3⟩
      · exact ⟨0, fun h => absurd h hjm⟩
    obtain ⟨bs, hbs⟩ := Classical.axiomOfChoice hex
    have hl : lm ops m l ρ = lmm ops m l vs als bs := by
      unfold lm lmm
      congr 1
      rw [List.map_filterMap]
      apply filterMap_congr'
      intro j hj
      have hjm := List.mem_range.1 hj
      cases hdj : dstOf ops j with
      | none => rfl
      | some dj =>
        simp only [Option.map_some, Option.some.injEq, Prod.mk.injEq, true_and]
        cases ha : inAls als j with
        | true => simp only [cond_true]; exact (hbs j hjm ha dj hdj).1
        | false =>
          simp only [cond_false]
          have := (hall' j hjm dj hdj).1 ha
          rw [selfS j dj hdj] at this
          exact this
    rw [hl]
    refine tail w' bs ((drew_step w).trans hs) (NewAll_of fun x hx => ?_)
    have ha : inAls als x.1 = true := List.any_eq_true.2 ⟨x, hx, Nat.beq_refl _⟩
    have hm' : x.1 < m := blt_spec ((List.all_eq_true.1 hals) x hx)
    obtain ⟨d, hd, _, _⟩ := hc.dst x.1 hm'
    exact (hbs x.1 hm' ha d hd).2 x hx rfl

/-! ### 4. A chain of tests that is made of plain operations: both ways meet again -/
theorem VL_join (b : Bool) (f : Bool → List (Nat × Value)) (j : Nat) (l' : List (Nat × Value)) (h : l = f b) (ht : b = true → VL r n ds P ops Q j l' w → VL r n ds P ops Q i (f true) w) (hf : b = false → VL r n ds P ops Q j l' w → VL r n ds P ops Q i (f false) w) (next : VL r n ds P ops Q j l' w) : VL r n ds P ops Q i l w :=
  VL_bool b f h (fun e => ht e next) (fun e => hf e next)
end
end Go.Vc
