/- The calculus' ninth part: a drawn region walked in one order. What floats (moves, loads of what stays) is settled; what acts stands in a chain. -/
import Derived.Test.YtfkahhkojlfmdaaVc8
set_option linter.unusedVariables false
set_option linter.unusedSimpArgs false
namespace Go.Vc
open Go.RowKit
section
variable {r : Option Nat} {n : Nat} {ds : List Deferred} {P : Program} {ops : Array Oper} {Q : Exit → Act → World → Prop} {l : List (Nat × Value)} {w : World} {i : Nat}
theorem wpAny_inv {tbl : List (List Nat)} {m : Nat} (hc : ChkL n ops tbl m) (I : (Nat → Bool) → (Nat → Value) → World → Prop)
    (H : ∀ k, k < m → ∀ (D : Nat → Bool) ρ w', I D ρ w' → D k = false → (∀ x ∈ tb tbl k, D x = true) → (∀ j, j < ops.size → D j = true → ∀ x ∈ tb tbl j, D x = true) →
      V1 r n ds P ops Q k (lk ops tbl m l k ρ) w' fun l' w'' => (∃ v d, dstOf ops k = some d ∧ look l' d = some v ∧ I (fun j => if j = k then true else D j) (upd ρ d v) w'') ∨ (dstOf ops k = none ∧ I (fun j => if j = k then true else D j) ρ w''))
    (tail : ∀ (D : Nat → Bool) ρ w', I D ρ w' → (∀ j, j < m → D j = true) → VL r n ds P ops Q m (lm ops m l ρ) w') (f : Nat) :
    ∀ (S : Array Bool) (a : Act) (w' : World), S.size = ops.size → ((List.range ops.size).filter fun j => !S.getD j true).length = f → (∀ k, k < ops.size → S.getD k true = true → ∀ x ∈ tb tbl k, S.getD x true = true) →
      a.tmps.size = n → a.defers = ds → I (fun j => S.getD j true) (env a) w' →
      (∀ t v, look l t = some v → (∀ j, j < m → S.getD j true = true → dstOf ops j ≠ some t) → a.tmps[t]? = some v) → (∀ j, j < m → ∀ t, S.getD j true = true → dstOf ops j = some t → (a.tmps[t]?).isSome = true) →
      (∀ j, m ≤ j → j < ops.size → S.getD j true = false) → wpAnyIn (Fx r) 0 P .any ops Q f S a w' := by
  induction f with
  | zero =>
    intro S a w' hsz hcnt hdown hn hds hI hbase hsome hlate
    have hall : ∀ j, j < ops.size → S.getD j true = true := by
      intro j hj
      cases hb : S.getD j true with
      | true => rfl
      | false =>
        have : j ∈ (List.range ops.size).filter fun j => !S.getD j true := List.mem_filter.2 ⟨List.mem_range.2 hj, by rw [hb]; rfl⟩
        rw [List.eq_nil_of_length_eq_zero hcnt] at this
        cases this
    have hm : m = ops.size := by
      rcases Nat.lt_or_ge m ops.size with h | h
      · have := hlate m (Nat.le_refl _) h
        rw [hall m h] at this; cases this
      · have := hc.le; omega
    have ht := tail _ (env a) w' hI (fun j hj => hall j (by omega))
    have hh := ht a ⟨hn, hds, fun t v hv => ?_⟩
    · refine wpAny_tail hc 0 ops.size S a w' (by omega) (by omega) ⟨hsz, fun j hj => by rw [hall j hj]; simp [hj]⟩ ?_
      rw [hm, show ops.size - ops.size = 0 from by omega] at hh
      exact hh
    · rcases look_append hv with h | h
      · obtain ⟨h1, h2⟩ := look_map h
        obtain ⟨j, hj, hjd⟩ := List.mem_filterMap.1 h1
        have := hsome j (List.mem_range.1 hj) t (hall j (by have := List.mem_range.1 hj; omega)) hjd
        rw [h2]
        unfold env
        obtain ⟨u, hu⟩ := Option.isSome_iff_exists.1 this
        rw [hu]; rfl
      · obtain ⟨h1, h2⟩ := look_filter (p := fun t => allB m fun j => match dstOf ops j with | some d => !Nat.beq d t | none => true) h
        refine hbase t v h1 fun j hj _ hd => ?_
        have := allB_spec h2 j hj
        simp only [hd, Nat.beq_refl] at this
        cases this
  | succ f ih =>
    intro S a w' hsz hcnt hdown hn hds hI hbase hsome hlate
    -- either all of the first part is done, or some of it waits
    by_cases hfull : ∀ j, j < m → S.getD j true = true
    · have ht := tail _ (env a) w' hI hfull
      have hh := ht a ⟨hn, hds, fun t v hv => ?_⟩
      · have hup : Upto ops m S := ⟨hsz, fun j hj => by
          by_cases hjm : j < m
          · rw [hfull j hjm]; simp [hjm]
          · rw [hlate j (by omega) hj]; simp; omega⟩
        have hf : m + (f + 1) = ops.size := by
          have e : (List.range ops.size).filter (fun j => !S.getD j true) = List.range' m (ops.size - m) := by
            have e0 : List.range ops.size = List.range' 0 m ++ List.range' m (ops.size - m) := by
              rw [List.range_eq_range']
              have := List.range'_append (s := 0) (m := m) (n := ops.size - m) (step := 1)
              simp only [Nat.one_mul, Nat.zero_add] at this
              rw [this]
              congr 1
              have := hc.le; omega
            rw [e0, List.filter_append]
            have e1 : (List.range' 0 m).filter (fun j => !S.getD j true) = [] := by
              apply List.filter_eq_nil_iff.2
              intro j hj
              have := (List.mem_range'_1.1 hj).2
              rw [hfull j (by omega)]; simp
            have e2 : (List.range' m (ops.size - m)).filter (fun j => !S.getD j true) = List.range' m (ops.size - m) := by
              apply List.filter_eq_self.2
              intro j hj
              have := List.mem_range'_1.1 hj
              rw [hlate j this.1 (by have := hc.le; omega)]; rfl
            rw [e1, e2]; rfl
          rw [e] at hcnt
          simp at hcnt
          omega
        refine wpAny_tail hc (f + 1) m S a w' (Nat.le_refl _) hf hup ?_
        rw [show f + 1 = ops.size - m from by omega]
        exact hh
      · rcases look_append hv with h | h
        · obtain ⟨h1, h2⟩ := look_map h
          obtain ⟨j, hj, hjd⟩ := List.mem_filterMap.1 h1
          have := hsome j (List.mem_range.1 hj) t (hfull j (List.mem_range.1 hj)) hjd
          rw [h2]
          unfold env
          obtain ⟨u, hu⟩ := Option.isSome_iff_exists.1 this
          rw [hu]; rfl
        · obtain ⟨h1, h2⟩ := look_filter (p := fun t => allB m fun j => match dstOf ops j with | some d => !Nat.beq d t | none => true) h
          refine hbase t v h1 fun j hj _ hd => ?_
          have := allB_spec h2 j hj
          simp only [hd, Nat.beq_refl] at this
          cases this
    · -- some of the first part waits: the least one is ready
      obtain ⟨j0, hj0, hS0⟩ : ∃ j, j < m ∧ S.getD j true = false := by
        apply Classical.byContradiction
        intro hno
        apply hfull
        intro j hj
        cases hb : S.getD j true with
        | true => rfl
        | false => exact absurd ⟨j, hj, hb⟩ hno
      have hle := hc.le
      have hmin : ∃ k, k < m ∧ S.getD k true = false ∧ ∀ x, x < k → S.getD x true = true := by
        have : ∀ d j, d = j → j < m → S.getD j true = false → ∃ k, k < m ∧ S.getD k true = false ∧ ∀ x, x < k → S.getD x true = true := by
          intro d
          induction d using Nat.strongRecOn with
          | _ d ihd =>
            rintro j rfl hj hS
            by_cases hex : ∃ x, x < d ∧ S.getD x true = false
            · obtain ⟨x, hx, hxS⟩ := hex
              exact ihd x hx x rfl (by omega) hxS
            · refine ⟨d, hj, hS, fun x hx => ?_⟩
              cases hb : S.getD x true with
              | true => rfl
              | false => exact absurd ⟨x, hx, hb⟩ hex
        exact this j0 j0 rfl hj0 hS0
      have getD_tf : ∀ x, x < ops.size → S.getD x true = true → S.getD x false = true := by
        intro x hx h
        rw [Array.getD_eq_getD_getElem?, Array.getElem?_eq_getElem (by rw [hsz]; exact hx)] at h ⊢
        exact h
      have getD_ft : ∀ x, S.getD x false = true → S.getD x true = true := by
        intro x h
        rw [Array.getD_eq_getD_getElem?] at h ⊢
        cases hb : S[x]? with
        | none => rfl
        | some b => rw [hb] at h; exact h
      obtain ⟨k0, hk0, hSk0, hk0min⟩ := hmin
      have hready : k0 ∈ Region.ready .any ops S := ready_mem.2 ⟨by omega, hSk0, fun x hx => by
        have := hc.aft k0 (by omega) x hx
        exact getD_tf x (by omega) (hk0min x this)⟩
      refine ⟨fun hn0 => by rw [hn0] at hready; (cases hready), fun k hk => ?_⟩
      obtain ⟨hklt, hkS, hkaft⟩ := ready_mem.1 hk
      have htb : ∀ x ∈ tb tbl k, S.getD x true = true := by
        intro x hx
        rcases hc.why k hklt x hx with h | ⟨j, hj, hjx⟩
        · exact getD_ft x (hkaft x h)
        · exact hdown j (by have := hc.aft k hklt j hj; omega) (getD_ft j (hkaft j hj)) x hjx
      have hkm : k < m := by
        rcases Nat.lt_or_ge k m with h | h
        · exact h
        · have := htb j0 (hc.tail k hklt h j0 (by omega))
          rw [hS0] at this; cases this
      have hV := H k hkm _ (env a) w' hI hkS htb hdown
      have hHas : Has n ds (lk ops tbl m l k (env a)) a := by
        refine ⟨hn, hds, fun t v hv => ?_⟩
        rcases look_append hv with h | h
        · obtain ⟨h1, h2⟩ := look_map h
          obtain ⟨j, hj, hjd⟩ := List.mem_filterMap.1 h1
          have := hsome j (by have := hc.lt k hklt j hj; omega) t (htb j hj) hjd
          rw [h2]
          unfold env
          obtain ⟨u, hu⟩ := Option.isSome_iff_exists.1 this
          rw [hu]; rfl
        · obtain ⟨h1, h2⟩ := look_filter (p := fun t => baseOk ops tbl m k t) h
          refine hbase t v h1 fun j hj hjS hjd => ?_
          have := allB_spec h2 j hj
          simp only [hjd, Nat.beq_refl, Bool.not_true, Bool.false_or] at this
          have hkj := hdown j (by omega) hjS k (nmem_iff.1 this)
          rw [hkS] at hkj; cases hkj
      have h1 := hV a hHas
      have hks : k < S.size := by rw [hsz]; exact hklt
      have getSet : ∀ j, (S.setIfInBounds k true).getD j true = if j = k then true else S.getD j true := by
        intro j
        rw [Array.getD_eq_getD_getElem?]
        by_cases e : j = k
        · subst e; rw [Array.getElem?_setIfInBounds_self_of_lt hks, if_pos rfl]; rfl
        · rw [Array.getElem?_setIfInBounds_ne (by omega), if_neg e, Array.getD_eq_getD_getElem?]
      have hfew : ((List.range ops.size).filter fun j => !(S.setIfInBounds k true).getD j true).length = f := by
        have hpos : k ∈ (List.range ops.size).filter fun j => !S.getD j true := List.mem_filter.2 ⟨List.mem_range.2 hklt, by rw [hkS]; rfl⟩
        have hnd : ((List.range ops.size).filter fun j => !S.getD j true).Nodup := List.Pairwise.filter _ List.nodup_range
        have e : ((List.range ops.size).filter fun j => !(S.setIfInBounds k true).getD j true) = ((List.range ops.size).filter fun j => !S.getD j true).erase k := by
          rw [hnd.erase_eq_filter, List.filter_filter]
          apply List.filter_congr
          intro j _
          rw [getSet j]
          by_cases e : j = k
          · subst e; simp
          · simp [e]
        rw [e, List.length_erase_of_mem hpos, hcnt]
        rfl
      have hdn' : ∀ j, j < ops.size → (S.setIfInBounds k true).getD j true = true → ∀ x ∈ tb tbl j, (S.setIfInBounds k true).getD x true = true := by
        intro j hj hjS x hx
        rw [getSet j] at hjS
        rw [getSet x]
        by_cases ex : x = k
        · rw [if_pos ex]
        · rw [if_neg ex]
          by_cases ej : j = k
          · subst ej; exact htb x hx
          · rw [if_neg ej] at hjS; exact hdown j hj hjS x hx
      rcases hc.dst k hkm with hd0 | ⟨d, hd, hdn, hclob⟩
      · obtain ⟨o, ho, hod⟩ : ∃ o, ops[k]? = some o ∧ o.dst = none := by
          refine ⟨ops[k], Array.getElem?_eq_getElem hklt, ?_⟩
          have := hd0
          unfold dstOf at this
          rw [Array.getElem?_eq_getElem hklt] at this
          exact this
        have h2 := wpOpIn_put0 ho hod (fun a' w'' ⟨l', hl', _⟩ => hl'.defers.trans hds.symm) h1
        refine wpOpIn_mono ?_ h2
        rintro a' w'' ⟨⟨l', hl', hK⟩, v', hv'⟩
        rcases hK with ⟨v, d', hd', _⟩ | ⟨_, hIk⟩
        · rw [hd0] at hd'; cases hd'
        rw [show a' = a from hv']
        refine ih _ a _ (by simp [hsz]) hfew hdn' hn hds (by rw [show (fun j => (S.setIfInBounds k true).getD j true) = (fun j => if j = k then true else S.getD j true) from funext getSet]; exact hIk) ?_ ?_ ?_
        · intro t u hu hno
          exact hbase t u hu fun j hj hjS => hno j hj (by rw [getSet j]; split; rfl; exact hjS)
        · intro j hj t hjS hjd
          by_cases ej : j = k
          · subst ej; rw [hd0] at hjd; cases hjd
          · rw [getSet j, if_neg ej] at hjS; exact hsome j hj t hjS hjd
        · intro j hj hjs
          rw [getSet j, if_neg (by omega)]
          exact hlate j hj hjs
      obtain ⟨o, ho, hod⟩ : ∃ o, ops[k]? = some o ∧ o.dst = some d := Option.bind_eq_some_iff.1 hd
      have h2 := wpOpIn_put ho hod (fun a' w'' ⟨l', hl', _⟩ => hl'.defers.trans hds.symm) h1
      refine wpOpIn_mono ?_ h2
      rintro a' w'' ⟨⟨l', hl', hK⟩, v', rfl⟩
      obtain ⟨v, d', hd', hlv, hIk⟩ : ∃ v d', dstOf ops k = some d' ∧ look l' d' = some v ∧ I (fun j => if j = k then true else S.getD j true) (upd (env a) d' v) w'' := by
        rcases hK with h | ⟨hd0, _⟩
        · exact h
        · rw [hd] at hd0; cases hd0
      rw [hd] at hd'
      simp only [Option.some.injEq] at hd'
      subst hd'
      have hv' : v = v' := by
        have := hl'.get d v hlv
        simp only [Act.put] at this
        rw [Array.getElem?_setIfInBounds_self_of_lt (by rw [hn]; exact hdn)] at this
        simpa using this.symm
      subst hv'
      have hput : ∀ t, t ≠ d → (a.put (some d) v).tmps[t]? = a.tmps[t]? := fun t ht => by
        simp only [Act.put]; exact Array.getElem?_setIfInBounds_ne (by omega)
      have hputd : (a.put (some d) v).tmps[d]? = some v := by
        simp only [Act.put]; exact Array.getElem?_setIfInBounds_self_of_lt (by rw [hn]; exact hdn)
      have henv : env (a.put (some d) v) = upd (env a) d v := by
        funext t
        unfold env upd
        cases e : Nat.beq d t with
        | true =>
          have : d = t := Nat.eq_of_beq_eq_true e
          subst this
          rw [hputd]; rfl
        | false =>
          have hne : d ≠ t := Nat.ne_of_beq_eq_false e
          rw [hput t (by omega)]; rfl
      refine ih _ _ _ (by simp [hsz]) hfew hdn' (by simp [Act.put, hn]) (by simp [Act.put, hds]) (by rw [show (fun j => (S.setIfInBounds k true).getD j true) = (fun j => if j = k then true else S.getD j true) from funext getSet, henv]; exact hIk) ?_ ?_ ?_
      · intro t u hu hno
        have hne : t ≠ d := fun e => hno k hkm (by rw [getSet k, if_pos rfl]) (by rw [e]; exact hd)
        rw [hput t hne]
        exact hbase t u hu fun j hj hjS => hno j hj (by rw [getSet j]; split; rfl; exact hjS)
      · intro j hj t hjS hjd
        by_cases et : t = d
        · rw [et, hputd]; rfl
        · rw [hput t et]
          by_cases ej : j = k
          · subst ej; rw [hd] at hjd; simp only [Option.some.injEq] at hjd; exact absurd hjd.symm et
          · rw [getSet j, if_neg ej] at hjS
            exact hsome j hj t hjS hjd
      · intro j hj hjs
        rw [getSet j, if_neg (by omega)]
        exact hlate j hj hjs


/-! ### The order in which a drawn region is walked -/
def lkn (ops : Array Oper) (tbl : List (List Nat)) (m : Nat) (l : List (Nat × Value)) (kn : List (Nat × Value)) (k : Nat) : List (Nat × Value) :=
  (tb tbl k).filterMap (fun j => match dstOf ops j, look kn j with | some d, some v => some (d, v) | _, _ => none) ++ l.filter (fun p => baseOk ops tbl m k p.1)
def lmn (ops : Array Oper) (m : Nat) (l : List (Nat × Value)) (kn : List (Nat × Value)) : List (Nat × Value) :=
  (List.range m).filterMap (fun j => match dstOf ops j, look kn j with | some d, some v => some (d, v) | _, _ => none) ++ l.filter (fun p => allB m fun j => match dstOf ops j with
    | some d => !Nat.beq d p.1
    | none => true)
def DetX (r : Option Nat) (n : Nat) (ds : List Deferred) (P : Program) (ops : Array Oper) (Q : Exit → Act → World → Prop) (w : World) (l : List (Nat × Value)) (k : Nat) (v : Value) : Prop :=
  V1 r n ds P ops Q k l w fun l' w'' => (∃ d, dstOf ops k = some d ∧ look l' d = some v) ∧ Step No w w''
/-- The region walked in the order 'is': an operation floats (its value is settled in all worlds from here on), or it is the chain's next. -/
def VT (r : Option Nat) (n : Nat) (ds : List Deferred) (P : Program) (ops : Array Oper) (Q : Exit → Act → World → Prop) (tbl : List (List Nat)) (m : Nat) (l : List (Nat × Value)) (R : World → World → Prop) (ch : List Nat) : List Nat → List (Nat × Value) → World → Prop
  | [], kn, w => ∀ w', Step No w w' → VL r n ds P ops Q m (lmn ops m l kn) w'
  | k :: is, kn, w => (∃ v, (∀ w', R w w' → DetX r n ds P ops Q w' (lkn ops tbl m l kn k) k v) ∧ VT r n ds P ops Q tbl m l R ch is ((k, v) :: kn) w) ∨
      (nmem k ch = true ∧ ∀ w0, Step No w w0 → V1 r n ds P ops Q k (lkn ops tbl m l kn k) w0 fun l' w'' => R w0 w'' ∧ ((∃ v d, dstOf ops k = some d ∧ look l' d = some v ∧ VT r n ds P ops Q tbl m l R ch is ((k, v) :: kn) w'') ∨ (dstOf ops k = none ∧ VT r n ds P ops Q tbl m l R ch is kn w'')))
/-- Behind one of the chain stand those alone that wait for it; each stands once. -/
def ordChk (tbl : List (List Nat)) (m : Nat) (ch : List Nat) : List Nat → Bool
  | [] => true
  | k :: is => Nat.blt k m && !nmem k is && (!nmem k ch || is.all (fun x => nmem k (tb tbl x))) && ordChk tbl m ch is
theorem ordChk_split {tbl : List (List Nat)} {m : Nat} {ch : List Nat} : ∀ {pre is : List Nat}, ordChk tbl m ch (pre ++ is) = true → ordChk tbl m ch is = true ∧ (∀ j ∈ pre, j ∉ is) := by
  intro pre
  induction pre with
  | nil => intro is h; exact ⟨h, fun j hj => by cases hj⟩
  | cons k pre ih =>
    intro is h
    simp only [List.cons_append, ordChk, Bool.and_eq_true, Bool.not_eq_true'] at h
    obtain ⟨h1, h2⟩ := ih h.2
    refine ⟨h1, fun j hj hm => ?_⟩
    rcases List.mem_cons.1 hj with rfl | hj
    · have := h.1.1.2
      rw [nmem_iff.2 (List.mem_append_right _ hm)] at this; cases this
    · exact h2 j hj hm
theorem VL_look {l' : List (Nat × Value)} (hs : ∀ t v, look l' t = some v → look l t = some v) (h : VL r n ds P ops Q i l' w) : VL r n ds P ops Q i l w :=
  fun a ha => h a ⟨ha.size, ha.defers, fun t v hv => ha.get t v (hs t v hv)⟩

structure Inv (r : Option Nat) (n : Nat) (ds : List Deferred) (P : Program) (ops : Array Oper) (Q : Exit → Act → World → Prop) (tbl : List (List Nat)) (m : Nat) (l : List (Nat × Value)) (R : World → World → Prop) (ch ord : List Nat) (D : Nat → Bool) (ρ : Nat → Value) (w : World) (pre is : List Nat) (kn : List (Nat × Value)) : Prop where
  vt : VT r n ds P ops Q tbl m l R ch is kn w
  eq : ord = pre ++ is
  done : ∀ j, j < m → D j = true → j ∈ pre
  key : ∀ j v, look kn j = some v → j ∈ pre
  val : ∀ j, j < m → D j = true → ∀ d v, dstOf ops j = some d → look kn j = some v → ρ d = v
  pend : ∀ j ∈ pre, D j = false → ∃ v knj, look kn j = some v ∧ (∀ x u, look knj x = some u → look kn x = some u) ∧ ∀ w', R w w' → DetX r n ds P ops Q w' (lkn ops tbl m l knj j) j v

variable {tbl : List (List Nat)} {m : Nat} {R : World → World → Prop} {ch ord : List Nat}

theorem look_cons {k t : Nat} {v : Value} {kn : List (Nat × Value)} : look ((k, v) :: kn) t = if k = t then some v else look kn t := by
  simp only [look]
  by_cases h : k = t
  · subst h; simp
  · rw [show Nat.beq k t = false from by cases e : Nat.beq k t; rfl; exact absurd (Nat.eq_of_beq_eq_true e) h, if_neg h]; rfl

/-- All that floats is passed. -/
theorem Inv.norm {D : Nat → Bool} {ρ : Nat → Value} (hord : ordChk tbl m ch ord = true) : ∀ {is pre : List Nat} {kn : List (Nat × Value)} {w : World}, Inv r n ds P ops Q tbl m l R ch ord D ρ w pre is kn →
    ∃ pre' is' kn', Inv r n ds P ops Q tbl m l R ch ord D ρ w pre' is' kn' ∧ (is' = [] ∨ ∃ c js, is' = c :: js ∧ nmem c ch = true ∧ ∀ w0, Step No w w0 → V1 r n ds P ops Q c (lkn ops tbl m l kn' c) w0 fun l' w'' => R w0 w'' ∧ ((∃ v d, dstOf ops c = some d ∧ look l' d = some v ∧ VT r n ds P ops Q tbl m l R ch js ((c, v) :: kn') w'') ∨ (dstOf ops c = none ∧ VT r n ds P ops Q tbl m l R ch js kn' w''))) := by
  intro is
  induction is with
  | nil => intro pre kn w h; exact ⟨pre, [], kn, h, .inl rfl⟩
  | cons k is ih =>
    intro pre kn w h
    rcases h.vt with ⟨v, hd, hv⟩ | ⟨hc, hv⟩
    · have hsp := ordChk_split (h.eq ▸ hord)
      have hnk : look kn k = none := by
        cases e : look kn k with
        | none => rfl
        | some u => exact absurd (List.mem_cons_self ..) (hsp.2 k (h.key k u e))
      have hnew : ∀ x u, look kn x = some u → look ((k, v) :: kn) x = some u := by
        intro x u hu
        rw [look_cons, if_neg (by rintro rfl; rw [hnk] at hu; cases hu)]
        exact hu
      refine ih (pre := pre ++ [k]) (kn := (k, v) :: kn) (w := w) ⟨hv, by rw [h.eq]; simp, fun j hj hD => List.mem_append_left _ (h.done j hj hD), ?_, ?_, ?_⟩
      · intro j u hu
        rw [look_cons] at hu
        by_cases e : k = j
        · subst e; simp
        · rw [if_neg e] at hu; exact List.mem_append_left _ (h.key j u hu)
      · intro j hj hD d u hdj hu
        have hjp := h.done j hj hD
        have hne : k ≠ j := by rintro rfl; exact hsp.2 k hjp (List.mem_cons_self ..)
        rw [look_cons, if_neg hne] at hu
        exact h.val j hj hD d u hdj hu
      · intro j hj hD
        rcases List.mem_append.1 hj with hj | hj
        · obtain ⟨u, knj, h1, h2, h3⟩ := h.pend j hj hD
          exact ⟨u, knj, hnew _ _ h1, fun x z hz => hnew _ _ (h2 x z hz), h3⟩
        · simp at hj
          subst hj
          exact ⟨v, kn, by rw [look_cons, if_pos rfl], hnew, hd⟩
    · exact ⟨pre, k :: is, kn, h, .inr ⟨k, is, rfl, hc, hv⟩⟩

theorem lkn_sub {ρ : Nat → Value} {kn : List (Nat × Value)} {k : Nat} (hc : ChkL n ops tbl m) (hk : k < m) (hval : ∀ j ∈ tb tbl k, ∀ d v, dstOf ops j = some d → look kn j = some v → ρ d = v) : ∀ t v, look (lkn ops tbl m l kn k) t = some v → look (lk ops tbl m l k ρ) t = some v := by
  intro t v hv
  unfold lkn at hv
  unfold lk
  rcases look_append hv with h | h
  · obtain ⟨h1, h2⟩ := look_filterMap (ρ := ρ) (D := (tb tbl k).filterMap (dstOf ops)) (by
      intro j hj d u hu
      cases hd : dstOf ops j with
      | none => rw [hd] at hu; cases hu
      | some d' =>
        cases hq : look kn j with
        | none => rw [hd, hq] at hu; cases hu
        | some u' =>
          rw [hd, hq] at hu
          simp only [Option.some.injEq, Prod.mk.injEq] at hu
          obtain ⟨rfl, rfl⟩ := hu
          exact ⟨hval j hj _ _ hd hq, List.mem_filterMap.2 ⟨j, hj, hd⟩⟩) h
    rw [h2]
    exact look_map_mem h1 _
  · by_cases ht : t ∈ (tb tbl k).filterMap (dstOf ops)
    · exfalso
      obtain ⟨h1, h2⟩ := look_filter (p := fun t => baseOk ops tbl m k t) h
      obtain ⟨j, hj, hjd⟩ := List.mem_filterMap.1 ht
      have hjk := hc.lt k (by have := hc.le; omega) j hj
      have := allB_spec h2 j (by omega)
      simp only [hjd, Nat.beq_refl, Bool.not_true, Bool.false_or] at this
      have := hc.lt j (by have := hc.le; omega) k (nmem_iff.1 this)
      omega
    · rw [look_append_right]
      · exact h
      · intro p hp
        obtain ⟨t', ht', rfl⟩ := List.mem_map.1 hp
        intro e
        simp only at e
        exact ht (e ▸ ht')

theorem lmn_sub {ρ : Nat → Value} {kn : List (Nat × Value)} (hval : ∀ j, j < m → ∀ d v, dstOf ops j = some d → look kn j = some v → ρ d = v) : ∀ t v, look (lmn ops m l kn) t = some v → look (lm ops m l ρ) t = some v := by
  intro t v hv
  unfold lmn at hv
  unfold lm
  rcases look_append hv with h | h
  · obtain ⟨h1, h2⟩ := look_filterMap (ρ := ρ) (D := (List.range m).filterMap (dstOf ops)) (by
      intro j hj d u hu
      cases hd : dstOf ops j with
      | none => rw [hd] at hu; cases hu
      | some d' =>
        cases hq : look kn j with
        | none => rw [hd, hq] at hu; cases hu
        | some u' =>
          rw [hd, hq] at hu
          simp only [Option.some.injEq, Prod.mk.injEq] at hu
          obtain ⟨rfl, rfl⟩ := hu
          exact ⟨hval j (List.mem_range.1 hj) _ _ hd hq, List.mem_filterMap.2 ⟨j, hj, hd⟩⟩) h
    rw [h2]
    exact look_map_mem h1 _
  · by_cases ht : t ∈ (List.range m).filterMap (dstOf ops)
    · exfalso
      obtain ⟨h1, h2⟩ := look_filter (p := fun t => allB m fun j => match dstOf ops j with | some d => !Nat.beq d t | none => true) h
      obtain ⟨j, hj, hjd⟩ := List.mem_filterMap.1 ht
      have := allB_spec h2 j (List.mem_range.1 hj)
      simp only [hjd, Nat.beq_refl] at this
      cases this
    · rw [look_append_right]
      · exact h
      · intro p hp
        obtain ⟨t', ht', rfl⟩ := List.mem_map.1 hp
        intro e
        simp only at e
        exact ht (e ▸ ht')

theorem VC_text {id : Nat} (tbl : List (List Nat)) (m : Nat) (R : World → World → Prop) (ch ord : List Nat) (hm : P.follows .mixedOrders = true) (hchk : drawChkL n ops tbl m = true) (hord : ordChk tbl m ch ord = true) (hall : allB m (fun k => nmem k ord) = true)
    (hRr : ∀ x, R x x) (hRt : ∀ {x y z}, R x y → R y z → R x z) (hR0 : ∀ {x y}, Step No x y → R x y)
    (h : VT r n ds P ops Q tbl m l R ch ord [] w.drew) : VC r n ds P Q (.region id ops true) l w := by
  intro a ha
  refine wpIn_region_any hm ?_
  have hc := drawChkL_spec hchk
  have hrep : ∀ j, (Array.replicate ops.size false).getD j true = decide (ops.size ≤ j) := by
    intro j
    rw [Array.getD_eq_getD_getElem?, Array.getElem?_replicate]
    by_cases h : j < ops.size
    · rw [if_pos h]; simp; omega
    · rw [if_neg h]; simp; omega
  have hlt : ∀ j ∈ ord, j < m := by
    have : ∀ is, ordChk tbl m ch is = true → ∀ j ∈ is, j < m := by
      intro is
      induction is with
      | nil => intro _ j hj; cases hj
      | cons k is ih =>
        intro h j hj
        simp only [ordChk, Bool.and_eq_true] at h
        rcases List.mem_cons.1 hj with rfl | hj
        · exact blt_spec h.1.1.1
        · exact ih h.2 j hj
    exact this ord hord
  refine wpAny_inv hc (fun D ρ w1 => ∃ w', Step No w' w1 ∧ ∃ pre is kn, Inv r n ds P ops Q tbl m l R ch ord D ρ w' pre is kn ∧ (is = [] ∨ ∃ c js, is = c :: js ∧ nmem c ch = true ∧ ∀ w0, Step No w' w0 → V1 r n ds P ops Q c (lkn ops tbl m l kn c) w0 fun l' w'' => R w0 w'' ∧ ((∃ v d, dstOf ops c = some d ∧ look l' d = some v ∧ VT r n ds P ops Q tbl m l R ch js ((c, v) :: kn) w'') ∨ (dstOf ops c = none ∧ VT r n ds P ops Q tbl m l R ch js kn w''))))
    ?_ ?_ ops.size _ a _ (by simp) ?_ ?_ ha.size ha.defers ?_ (fun t v hv _ => ha.get t v hv) ?_ ?_
  · rintro k hk D ρ w1 ⟨w', hs1, pre, is, kn, hI, hhead⟩ hDk hanc hdown
    have hsp := ordChk_split (hI.eq ▸ hord)
    have hkord : k ∈ pre ++ is := hI.eq ▸ nmem_iff.1 (allB_spec hall k hk)
    have hle := hc.le
    have ancLt : ∀ j ∈ tb tbl k, j < m := fun j hj => by have := hc.lt k (by omega) j hj; omega
    -- slots of what is done stay
    have hkeep : ∀ d, dstOf ops k = some d → ∀ (v : Value) j, j < m → D j = true → ∀ e, dstOf ops j = some e → upd ρ d v e = ρ e := by
      intro d hd v j hj hDj e he
      rcases hc.dst k hk with h0 | ⟨d', hd', _, hcl⟩
      · rw [h0] at hd; cases hd
      · rw [hd] at hd'
        simp only [Option.some.injEq] at hd'
        subst hd'
        have hjk : j ≠ k := by rintro rfl; rw [hDk] at hDj; cases hDj
        have hnk : k ∉ tb tbl j := fun hmem => by have := hdown j (by omega) hDj k hmem; rw [hDk] at this; cases this
        have := hcl j hj hjk hnk
        unfold upd
        have hne : d ≠ e := by
          rintro rfl
          exact this (List.mem_filterMap.2 ⟨j, List.mem_cons_self .., he⟩)
        rw [show Nat.beq d e = false from by cases q : Nat.beq d e; rfl; exact absurd (Nat.eq_of_beq_eq_true q) hne]
        rfl
    by_cases hkp : k ∈ pre
    · obtain ⟨v, knj, h1, h2, h3⟩ := hI.pend k hkp hDk
      have hv := h3 w1 (hR0 hs1)
      refine V1_sub (lkn_sub hc hk fun j hj d u hd hu => hI.val j (ancLt j hj) (hanc j hj) d u hd (h2 j u hu)) ?_
      intro a ha
      refine wpOpIn_mono ?_ (hv a ha)
      rintro a' w'' ⟨l', hl', ⟨d, hd, hl⟩, hs2⟩
      refine ⟨l', hl', .inl ⟨v, d, hd, hl, w', hs1.trans hs2, pre, is, kn, ⟨hI.vt, hI.eq, ?_, hI.key, ?_, ?_⟩, hhead⟩⟩
      · intro j hj hDj
        by_cases e : j = k
        · rw [e]; exact hkp
        · rw [if_neg e] at hDj; exact hI.done j hj hDj
      · intro j hj hDj e u he hu
        by_cases ejk : j = k
        · subst ejk
          rw [hd] at he
          simp only [Option.some.injEq] at he
          subst he
          rw [h1] at hu
          simp only [Option.some.injEq] at hu
          subst hu
          simp [upd]
        · rw [if_neg ejk] at hDj
          rw [hkeep d hd v j hj hDj e he]
          exact hI.val j hj hDj e u he hu
      · intro j hj hDj
        by_cases ejk : j = k
        · subst ejk; rw [if_pos rfl] at hDj; cases hDj
        · rw [if_neg ejk] at hDj; exact hI.pend j hj hDj
    · have hkis : k ∈ is := by
        rcases List.mem_append.1 hkord with h | h
        · exact absurd h hkp
        · exact h
      rcases hhead with rfl | ⟨c, js, rfl, hcc, hv⟩
      · cases hkis
      have hkc : k = c := by
        rcases List.mem_cons.1 hkis with h | h
        · exact h
        · exfalso
          have h4 := hsp.1
          simp only [ordChk, Bool.and_eq_true] at h4
          have h5 := h4.1.2
          rw [hcc] at h5
          simp only [Bool.not_true, Bool.false_or, List.all_eq_true] at h5
          have h6 := hanc c (nmem_iff.1 (h5 k h))
          have hcm : c < m := blt_spec h4.1.1.1
          exact hsp.2 c (hI.done c hcm h6) (List.mem_cons_self ..)
      subst hkc
      refine V1_sub (lkn_sub hc hk fun j hj d u hd hu => hI.val j (ancLt j hj) (hanc j hj) d u hd hu) ?_
      intro a ha
      refine wpOpIn_mono ?_ (hv w1 hs1 a ha)
      have hnk : look kn k = none := by
        cases e : look kn k with
        | none => rfl
        | some u => exact absurd (hI.key k u e) hkp
      rintro a' w'' ⟨l', hl', hR, hcase⟩
      rcases hcase with ⟨v, d, hd, hl, hvt⟩ | ⟨hd, hvt⟩
      · refine ⟨l', hl', .inl ⟨v, d, hd, hl, w'', Step.refl _ _, Inv.norm hord (pre := pre ++ [k]) ⟨hvt, by rw [hI.eq]; simp, ?_, ?_, ?_, ?_⟩⟩⟩
        · intro j hj hDj
          by_cases e : j = k
          · rw [e]; simp
          · rw [if_neg e] at hDj; exact List.mem_append_left _ (hI.done j hj hDj)
        · intro j u hu
          rw [look_cons] at hu
          by_cases e : k = j
          · subst e; simp
          · rw [if_neg e] at hu; exact List.mem_append_left _ (hI.key j u hu)
        · intro j hj hDj e u he hu
          by_cases ejk : j = k
          · subst ejk
            rw [hd] at he
            simp only [Option.some.injEq] at he
            subst he
            rw [look_cons, if_pos rfl] at hu
            simp only [Option.some.injEq] at hu
            subst hu
            simp [upd]
          · rw [if_neg ejk] at hDj
            rw [look_cons, if_neg (by omega)] at hu
            rw [hkeep d hd v j hj hDj e he]
            exact hI.val j hj hDj e u he hu
        · intro j hj hDj
          by_cases ejk : j = k
          · subst ejk; rw [if_pos rfl] at hDj; cases hDj
          · rw [if_neg ejk] at hDj
            have hjp : j ∈ pre := by
              rcases List.mem_append.1 hj with h | h
              · exact h
              · simp at h; exact absurd h ejk
            obtain ⟨u, knj, h1, h2, h3⟩ := hI.pend j hjp hDj
            have hnew : ∀ x z, look kn x = some z → look ((k, v) :: kn) x = some z := by
              intro x z hz
              rw [look_cons, if_neg (by rintro rfl; rw [hnk] at hz; cases hz)]
              exact hz
            exact ⟨u, knj, hnew _ _ h1, fun x z hz => hnew _ _ (h2 x z hz), fun w2 h2' => h3 w2 (hRt (hR0 hs1) (hRt hR h2'))⟩
      · refine ⟨l', hl', .inr ⟨hd, w'', Step.refl _ _, Inv.norm hord (pre := pre ++ [k]) ⟨hvt, by rw [hI.eq]; simp, ?_, ?_, ?_, ?_⟩⟩⟩
        · intro j hj hDj
          by_cases e : j = k
          · rw [e]; simp
          · rw [if_neg e] at hDj; exact List.mem_append_left _ (hI.done j hj hDj)
        · intro j u hu
          exact List.mem_append_left _ (hI.key j u hu)
        · intro j hj hDj e u he hu
          by_cases ejk : j = k
          · subst ejk; rw [hd] at he; cases he
          · rw [if_neg ejk] at hDj; exact hI.val j hj hDj e u he hu
        · intro j hj hDj
          by_cases ejk : j = k
          · subst ejk; rw [if_pos rfl] at hDj; cases hDj
          · rw [if_neg ejk] at hDj
            have hjp : j ∈ pre := by
              rcases List.mem_append.1 hj with h | h
              · exact h
              · simp at h; exact absurd h ejk
            obtain ⟨u, knj, h1, h2, h3⟩ := hI.pend j hjp hDj
            exact ⟨u, knj, h1, h2, fun w2 h2' => h3 w2 (hRt (hR0 hs1) (hRt hR h2'))⟩
  · rintro D ρ w1 ⟨w', hs1, pre, is, kn, hI, hhead⟩ hD
    have hsp := ordChk_split (hI.eq ▸ hord)
    rcases hhead with rfl | ⟨c, js, rfl, _⟩
    · exact VL_look (lmn_sub fun j hj d v hd hv => hI.val j hj (hD j hj) d v hd hv) (hI.vt w1 hs1)
    · exfalso
      have hcm : c < m := hlt c (by rw [hI.eq]; simp)
      exact hsp.2 c (hI.done c hcm (hD c hcm)) (List.mem_cons_self ..)
  · have : (List.range ops.size).filter (fun j => !(Array.replicate ops.size false).getD j true) = List.range ops.size := List.filter_eq_self.2 fun j hj => by
      rw [hrep j]
      have := List.mem_range.1 hj
      simp; omega
    rw [this]; simp
  · intro k hk h
    rw [hrep k] at h; simp at h; omega
  · refine ⟨_, Step.refl _ _, Inv.norm hord (pre := []) ⟨h, rfl, ?_, (fun j v hv => by cases hv), (fun j hj hDj d v hd hv => by cases hv), (fun j hj => by cases hj)⟩⟩
    intro j hj hDj
    rw [hrep j] at hDj; simp at hDj; have := hc.le; omega
  · intro j hj t h
    rw [hrep j] at h; simp at h; have := hc.le; omega
  · intro j _ hj
    rw [hrep j]; simp; omega

/-! ### Its rules -/
def ptRun (P : Program) (n : Nat) (ops : Array Oper) (tbl : List (List Nat)) (m : Nat) (l : List (Nat × Value)) : List Nat → List (Nat × Value) → Option (List (Nat × Value))
  | [], kn => some kn
  | k :: is, kn => match pureAt P n ops (lkn ops tbl m l kn k) k with
    | some v => ptRun P n ops tbl m l is ((k, v) :: kn)
    | none => none
theorem DetX_pure {w : World} {l : List (Nat × Value)} {k : Nat} {v : Value} (h : pureAt P n ops l k = some v) : DetX r n ds P ops Q w l k v := by
  unfold pureAt at h
  cases ho : ops[k]? with
  | none => rw [ho] at h; cases h
  | some o =>
    rw [ho] at h
    simp only at h
    cases hod : o.dst with
    | none => rw [hod] at h; cases h
    | some d =>
      rw [hod] at h
      simp only at h
      cases hdn : Nat.blt d n with
      | false => rw [hdn] at h; cases h
      | true =>
        rw [hdn] at h
        simp only [cond_true] at h
        exact V1_pure ho h hod (blt_spec hdn) ⟨⟨d, by unfold dstOf; rw [ho]; exact hod, look_head⟩, Step.refl _ _⟩
theorem VT_float {k : Nat} {is : List Nat} {kn : List (Nat × Value)} (v : Value) (hd : ∀ w', R w w' → DetX r n ds P ops Q w' (lkn ops tbl m l kn k) k v) (next : VT r n ds P ops Q tbl m l R ch is ((k, v) :: kn) w) : VT r n ds P ops Q tbl m l R ch (k :: is) kn w := .inl ⟨v, hd, next⟩
theorem VT_run {is0 is : List Nat} {kn kn' : List (Nat × Value)} (h : ptRun P n ops tbl m l is0 kn = some kn') (next : VT r n ds P ops Q tbl m l R ch is kn' w) : VT r n ds P ops Q tbl m l R ch (is0 ++ is) kn w := by
  induction is0 generalizing kn with
  | nil => simp only [ptRun, Option.some.injEq] at h; subst h; exact next
  | cons k is0 ih =>
    simp only [ptRun] at h
    cases hp : pureAt P n ops (lkn ops tbl m l kn k) k with
    | none => rw [hp] at h; cases h
    | some v =>
      rw [hp] at h
      exact VT_float v (fun w' _ => DetX_pure hp) (ih h)
theorem VT_pures (c : Nat) {is : List Nat} {kn kn' : List (Nat × Value)} (h : ptRun P n ops tbl m l (is.take c) kn = some kn') (next : VT r n ds P ops Q tbl m l R ch (is.drop c) kn' w) : VT r n ds P ops Q tbl m l R ch is kn w := by
  have := VT_run h next
  rwa [List.take_append_drop] at this
theorem VT_eq {is : List Nat} {kn : List (Nat × Value)} (kn' : List (Nat × Value)) (h : kn = kn') (next : VT r n ds P ops Q tbl m l R ch is kn' w) : VT r n ds P ops Q tbl m l R ch is kn w := h ▸ next
/-- The chain's next, in whatever world what floats has left. -/
def VTc (r : Option Nat) (n : Nat) (ds : List Deferred) (P : Program) (ops : Array Oper) (Q : Exit → Act → World → Prop) (tbl : List (List Nat)) (m : Nat) (l : List (Nat × Value)) (R : World → World → Prop) (ch : List Nat) (k : Nat) (is : List Nat) (kn : List (Nat × Value)) (w : World) : Prop :=
  V1 r n ds P ops Q k (lkn ops tbl m l kn k) w fun l' w'' => R w w'' ∧ ((∃ v d, dstOf ops k = some d ∧ look l' d = some v ∧ VT r n ds P ops Q tbl m l R ch is ((k, v) :: kn) w'') ∨ (dstOf ops k = none ∧ VT r n ds P ops Q tbl m l R ch is kn w''))
theorem VT_chain {k : Nat} {is : List Nat} {kn : List (Nat × Value)} (hk : nmem k ch = true) (h : ∀ w0, Step No w w0 → VTc r n ds P ops Q tbl m l R ch k is kn w0) : VT r n ds P ops Q tbl m l R ch (k :: is) kn w := .inr ⟨hk, h⟩
theorem VT_end {kn : List (Nat × Value)} (h : ∀ w', Step No w w' → VL r n ds P ops Q m (lmn ops m l kn) w') : VT r n ds P ops Q tbl m l R ch [] kn w := h
theorem VT_load {k d : Nat} {t : TypeId} {a : Addr} {v : Value} {is : List Nat} {kn : List (Nat × Value)} (h : loadOp n ops (lkn ops tbl m l kn k) k = some (d, t, a)) (hd : dstOf ops k = some d) (hv : ∀ w', R w w' → Loads P t w' a v) (next : VT r n ds P ops Q tbl m l R ch is ((k, v) :: kn) w) : VT r n ds P ops Q tbl m l R ch (k :: is) kn w :=
  VT_float v (fun w' hR => V1_load h (hv w' hR) ⟨⟨d, hd, look_head⟩, Step.refl _ _⟩) next
theorem VT_index {k d b o len sz : Nat} {mm : Int} {is : List Nat} {kn : List (Nat × Value)} (h : indexOp P n ops (lkn ops tbl m l kn k) k = some (d, b, o, len, sz, mm)) (hd : dstOf ops k = some d) (j : Nat) (hk : mm = j) (hlt : j < len) (o' : Nat) (ho' : o + j * sz = o') (next : VT r n ds P ops Q tbl m l R ch is ((k, .pointer (some ⟨b, o', none⟩)) :: kn) w) : VT r n ds P ops Q tbl m l R ch (k :: is) kn w :=
  VT_float _ (fun w' hR => V1_index h j hk hlt o' ho' ⟨⟨d, hd, look_head⟩, Step.refl _ _⟩) next
theorem VT_agEq {d dd k : Nat} {pos : Bool} {t : TypeId} {xs ys : Array Value} {ls : List Leaf} {is : List Nat} {kn : List (Nat × Value)} (h : eqOp P n ops (lkn ops tbl m l kn k) k = some (d, pos, t, xs, ys)) (hd : dstOf ops k = some d) (hl : leaves P dd t = some ls) (hdd : Nat.ble dd 10000 = true) (hx : CellsAre xs.toList ls) (hy : CellsAre ys.toList ls) (b : Bool) (hb : (if pos then cellsEq xs.toList ys.toList else !cellsEq xs.toList ys.toList) = b) (next : VT r n ds P ops Q tbl m l R ch is ((k, .bool b) :: kn) w) : VT r n ds P ops Q tbl m l R ch (k :: is) kn w :=
  VT_float _ (fun w' hR => V1_eq h hl hdd hx hy b hb ⟨⟨d, hd, look_head⟩, Step.refl _ _⟩) next
theorem VTc_call {k d f : Nat} {args : Array Value} {S : Value → World → Prop} {is : List Nat} {kn : List (Nat × Value)} (h : callOp ops (lkn ops tbl m l kn k) k = some (d, f, args)) (hd : dstOf ops k = some d) (hdn : Nat.blt d n = true) (hc : ∀ (args : Array Value) (w : World), (callFunc f args).run P w = .ok (.enter f args) w) (hcall : CV P f args w S) (hR : ∀ v w1, S v w1 → R w w1) (next : ∀ v w1, S v w1 → VT r n ds P ops Q tbl m l R ch is ((k, v) :: kn) w1) : VTc r n ds P ops Q tbl m l R ch k is kn w :=
  (V1_call h hdn hc hcall fun v w1 hv => ⟨hR v w1 hv, .inl ⟨v, d, hd, look_head, next v w1 hv⟩⟩)
theorem VTc_box {k d : Nat} {t : TypeId} {c : Array Value} {is : List Nat} {kn : List (Nat × Value)} (h : boxOp P n ops (lkn ops tbl m l kn k) k = some (d, t, c)) (hd : dstOf ops k = some d) (hR : ∀ b w1, New w w1 b (.cells c t) → R w w1) (next : ∀ b w1, New w w1 b (.cells c t) → VT r n ds P ops Q tbl m l R ch is ((k, .pointer (some ⟨b, 0, none⟩)) :: kn) w1) : VTc r n ds P ops Q tbl m l R ch k is kn w :=
  (V1_box h fun b w1 hn => ⟨hR b w1 hn, .inl ⟨_, d, hd, look_head, next b w1 hn⟩⟩)
theorem VTc_store {k b o : Nat} {vs : List Value} {c : Array Value} {e : TypeId} {is : List Nat} {kn : List (Nat × Value)} (h : storeOp P ops (lkn ops tbl m l kn k) k = some (b, o, vs)) (hd : dstOf ops k = none) (hB : Own w b c e) (hsz : o + vs.length ≤ c.size) (hR : ∀ w1, Wr w w1 b (setRow c o vs) e → R w w1) (next : ∀ w1, Wr w w1 b (setRow c o vs) e → VT r n ds P ops Q tbl m l R ch is kn w1) : VTc r n ds P ops Q tbl m l R ch k is kn w :=
  (V1_store h hB hsz fun w1 hw => ⟨hR w1 hw, .inr ⟨hd, next w1 hw⟩⟩)
theorem VTc_bs {k d : Nat} {e : TypeId} {c : Array Value} {len : Nat} {is : List Nat} {kn : List (Nat × Value)} (h : bsOp P n ops (lkn ops tbl m l kn k) k = some (d, e, c, len)) (hd : dstOf ops k = some d) (hR : ∀ b w1, New w w1 b (.cells c e) → R w w1) (next : ∀ b w1, New w w1 b (.cells c e) → VT r n ds P ops Q tbl m l R ch is ((k, .slice (some ⟨b, 0, none⟩) len len) :: kn) w1) : VTc r n ds P ops Q tbl m l R ch k is kn w :=
  (V1_bs h fun b w1 hn => ⟨hR b w1 hn, .inl ⟨_, d, hd, look_head, next b w1 hn⟩⟩)

theorem VT_fcall {k d f : Nat} {args : Array Value} {v : Value} {is : List Nat} {kn : List (Nat × Value)} (h : callOp ops (lkn ops tbl m l kn k) k = some (d, f, args)) (hd : dstOf ops k = some d) (hdn : Nat.blt d n = true) (hc : ∀ (args : Array Value) (w : World), (callFunc f args).run P w = .ok (.enter f args) w) (hcall : ∀ w', R w w' → CV P f args w' fun x w1 => x = v ∧ Step No w' w1) (next : VT r n ds P ops Q tbl m l R ch is ((k, v) :: kn) w) : VT r n ds P ops Q tbl m l R ch (k :: is) kn w :=
  VT_float v (fun w' hR => V1_call h hdn hc (hcall w' hR) fun x w1 hx => ⟨⟨d, hd, by rw [← hx.1]; exact look_head⟩, hx.2⟩) next

end
end Go.Vc
