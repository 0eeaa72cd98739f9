/- The calculus' eighth part: a drawn region in which some operations come to values that nobody knows beforehand (a new block's place, what a call tells). -/
import Derived.Test.YtfkahhkojlfmdaaVc7
set_option linter.unusedVariables false
set_option linter.unusedSimpArgs false
namespace Go.Vc
open Go.RowKit
def lkx (ops : Array Oper) (tbl : List (List Nat)) (m : Nat) (l : List (Nat × Value)) (vs : List Value) (exs : List Nat) (k : Nat) : List (Nat × Value) :=
  (tb tbl k).filterMap (fun j => bif nmem j exs then none else match dstOf ops j with | some d => some (d, vs.getD j undef) | none => none) ++ l.filter (fun p => baseOk ops tbl m k p.1)
def lmx (ops : Array Oper) (m : Nat) (l : List (Nat × Value)) (vs : List Value) (exs : List Nat) (us : Nat → Value) : List (Nat × Value) :=
  (List.range m).filterMap (fun j => match dstOf ops j with | some d => some (d, bif nmem j exs then us j else vs.getD j undef) | none => none) ++ l.filter (fun p => allB m fun j => match dstOf ops j with
    | some d => !Nat.beq d p.1
    | none => true)
section
variable {r : Option Nat} {n : Nat} {ds : List Deferred} {P : Program} {ops : Array Oper} {Q : Exit → Act → World → Prop} {l : List (Nat × Value)} {w : World} {i : Nat}
def Ex1 (r : Option Nat) (n : Nat) (ds : List Deferred) (P : Program) (ops : Array Oper) (Q : Exit → Act → World → Prop) (w : World) (l : List (Nat × Value)) (k : Nat) (B : Value → World → Prop) : Prop :=
  V1 r n ds P ops Q k l w fun l' w'' => ∃ v d, dstOf ops k = some d ∧ look l' d = some v ∧ Step No w w'' ∧ B v w''
theorem VC_ex {id : Nat} (tbl : List (List Nat)) (m : Nat) (vs : List Value) (ks js exs : List Nat) (B : Nat → Value → World → Prop) (hm : P.follows .mixedOrders = true) (hchk : drawChk n ops tbl m = true) (hcov : allB m (fun k => nmem k ks || nmem k js || nmem k exs) = true)
    (hB : ∀ k v x y, B k v x → Step No x y → B k v y)
    (hpure : (ks.map fun k => pureAt P n ops (lkx ops tbl m l vs exs k) k) = ks.map fun k => some (vs.getD k undef)) (hks : ks.all (fun k => !nmem k exs) = true) (hjs : js.all (fun k => !nmem k exs) = true) (hexs : exs.all (fun k => Nat.blt k m) = true)
    (hj : ∀ w1, Step No w w1 → AncAll (fun k => Det1 r n ds P ops Q w1 (lkx ops tbl m l vs exs k) k (vs.getD k undef)) js)
    (hx : ∀ w1, Step No w w1 → AncAll (fun k => Ex1 r n ds P ops Q w1 (lkx ops tbl m l vs exs k) k (B k)) exs)
    (tail : ∀ w1 us, Step No w w1 → AncAll (fun k => B k (us k) w1) exs → VL r n ds P ops Q m (lmx ops m l vs exs us) w1) : VC r n ds P Q (.region id ops true) l w := by
  have hc := drawChk_spec hchk
  have inSlots : ∀ k j d, j ∈ k :: tb tbl k → dstOf ops j = some d → ∀ ρ, rs ops tbl k ρ d = ρ d := by
    intro k j d hj hd ρ
    unfold rs slotsOf
    rw [show nmem d (List.filterMap (dstOf ops) (k :: tb tbl k)) = true from nmem_iff.2 (List.mem_filterMap.2 ⟨j, hj, hd⟩)]
    rfl
  have selfS : ∀ j d, dstOf ops j = some d → ∀ ρ, rs ops tbl j ρ d = ρ d := fun j d hd ρ => inSlots j j d (List.mem_cons_self ..) hd ρ
  let G : Nat → (Nat → Value) → World → Prop := fun j ρ w' => ∀ d, dstOf ops j = some d → (nmem j exs = false → ρ d = vs.getD j undef) ∧ (nmem j exs = true → B j (ρ d) w')
  -- the list of what an operation may read, whatever its ancestors laid
  have hsub : ∀ k, k < m → ∀ ρ w', AncAll (fun j => G j (rs ops tbl j ρ) w') (tb tbl k) → ∀ t v, look (lkx ops tbl m l vs exs k) t = some v → look (lk ops tbl m l k ρ) t = some v := by
    intro k hk ρ w' hanc t v hv
    have hanc' := AncAll_spec hanc
    unfold lkx at hv
    unfold lk
    rcases look_append hv with h | h
    · obtain ⟨h1, h2⟩ := look_filterMap (ρ := ρ) (D := (tb tbl k).filterMap (dstOf ops)) (by
        intro j hj d u hu
        cases ha : nmem j exs with
        | true => rw [ha] at hu; cases hu
        | false =>
          rw [ha] at hu
          simp only [cond_false] at hu
          cases hd : dstOf ops j with
          | none => rw [hd] at hu; cases hu
          | some d' =>
            rw [hd] at hu
            simp only [Option.some.injEq, Prod.mk.injEq] at hu
            obtain ⟨rfl, rfl⟩ := hu
            have := (hanc' j hj d' hd).1 ha
            rw [selfS j d' hd] at this
            exact ⟨this, List.mem_filterMap.2 ⟨j, hj, hd⟩⟩) h
      rw [h2]
      exact look_map_mem h1 _
    · by_cases ht : t ∈ (tb tbl k).filterMap (dstOf ops)
      · -- a base slot that an ancestor writes is let go
        exfalso
        obtain ⟨h1, h2⟩ := look_filter (p := fun t => baseOk ops tbl m k t) h
        obtain ⟨j, hj, hjd⟩ := List.mem_filterMap.1 ht
        have hjk := hc.lt k (by have := hc.le; omega) j hj
        have := allB_spec h2 j (by omega)
        simp only [hjd, Nat.beq_refl, Bool.not_true, Bool.false_or] at this
        have := hc.lt j (by have := hc.le; omega) k (nmem_iff.1 this)
        omega
      · rw [look_append_right]
        · exact h
        · intro p hp
          obtain ⟨t', ht', rfl⟩ := List.mem_map.1 hp
          intro e
          simp only at e
          exact ht (e ▸ ht')
  refine VC_any tbl m hm hchk (fun x y => Step No x y) (fun x => Step.refl _ x) (fun h k => Step.trans h k) G (fun j ρ x y h hs d hd => ⟨(h d hd).1, fun hz => hB _ _ _ _ ((h d hd).2 hz) hs⟩) (HAll_of fun k hk => ?_) ?_
  · intro ρ w' hs hanc
    have hw' : Step No w w' := (drew_step w).trans hs
    obtain ⟨d, hd, hdn, hclob⟩ := hc.dst k hk
    have hcv := allB_spec hcov k hk
    refine V1_sub (hsub k hk ρ w' hanc) ?_
    have fin : nmem k exs = false → ∀ l' w'', (∃ d, dstOf ops k = some d ∧ look l' d = some (vs.getD k undef) ∧ Step No w' w'') → ∃ v d, dstOf ops k = some d ∧ look l' d = some v ∧ Step No w' w'' ∧ G k (rs ops tbl k (upd ρ d v)) w'' := by
      rintro hna l' w'' ⟨d0, h1, h2, h3⟩
      refine ⟨_, d0, h1, h2, h3, fun d' hd' => ⟨fun _ => ?_, fun e => (by rw [hna] at e; cases e)⟩⟩
      rw [h1] at hd'
      simp only [Option.some.injEq] at hd'
      subst hd'
      rw [selfS k d0 h1]
      simp [upd]
    simp only [Bool.or_eq_true] at hcv
    rcases hcv with (hk1 | hk2) | hk3
    · have hmem := nmem_iff.1 hk1
      have hna : nmem k exs = false := by simpa using (List.all_eq_true.1 hks) k hmem
      have hp := map_eq_at hpure k hmem
      obtain ⟨o, ho, hod⟩ : ∃ o, ops[k]? = some o ∧ o.dst = some d := Option.bind_eq_some_iff.1 hd
      unfold pureAt at hp
      rw [ho] at hp
      simp only [hod] at hp
      rw [show Nat.blt d n = true from Nat.ble_eq_true_of_le hdn] at hp
      simp only [cond_true] at hp
      exact V1_pure ho hp hod hdn (fin hna _ _ ⟨d, hd, look_head, Step.refl _ _⟩)
    · have hmem := nmem_iff.1 hk2
      have hna : nmem k exs = false := by simpa using (List.all_eq_true.1 hjs) k hmem
      have h1 := AncAll_spec (hj w' hw') k hmem
      intro a ha
      refine wpOpIn_mono ?_ (h1 a ha)
      rintro a' w'' ⟨l', hl', h2⟩
      exact ⟨l', hl', fin hna l' w'' h2⟩
    · have h1 := AncAll_spec (hx w' hw') k (nmem_iff.1 hk3)
      intro a ha
      refine wpOpIn_mono ?_ (h1 a ha)
      rintro a' w'' ⟨l', hl', v, d0, h2, h3, h4, h5⟩
      refine ⟨l', hl', v, d0, h2, h3, h4, fun d' hd' => ⟨fun e => (by rw [hk3] at e; cases e), fun _ => ?_⟩⟩
      rw [h2] at hd'
      simp only [Option.some.injEq] at hd'
      subst hd'
      rw [selfS k d0 h2]
      simpa [upd] using h5
  · intro ρ w' hs hall
    have hall' := HAll_spec hall
    have hl : lm ops m l ρ = lmx ops m l vs exs (fun j => match dstOf ops j with | some d => ρ d | none => undef) := by
      unfold lm lmx
      congr 1
      rw [List.map_filterMap]
      apply filterMap_congr'
      intro j hj
      have hjm := List.mem_range.1 hj
      cases hdj : dstOf ops j with
      | none => rfl
      | some dj =>
        simp only [Option.map_some, Option.some.injEq, Prod.mk.injEq, true_and]
        cases ha : nmem j exs with
        | true => simp [hdj]
        | false =>
          simp only [cond_false]
          have := (hall' j hjm dj hdj).1 ha
          rw [selfS j dj hdj] at this
          exact this
    rw [hl]
    refine tail w' _ ((drew_step w).trans hs) (AncAll_of fun k hk => ?_)
    have hkm : k < m := blt_spec ((List.all_eq_true.1 hexs) k hk)
    obtain ⟨d, hd, _, _⟩ := hc.dst k hkm
    have := (hall' k hkm d hd).2 (nmem_iff.2 hk)
    rw [selfS k d hd] at this
    simpa [hd] using this
theorem Ex1_call {k d f : Nat} {args : Array Value} {S : Value → World → Prop} {B : Value → World → Prop} (h : callOp ops l k = some (d, f, args)) (hd : dstOf ops k = some d) (hdn : Nat.blt d n = true) (hc : ∀ (args : Array Value) (w : World), (callFunc f args).run P w = .ok (.enter f args) w) (hcall : CV P f args w S) (hs : ∀ v w1, S v w1 → Step No w w1 ∧ B v w1) : Ex1 r n ds P ops Q w l k B :=
  V1_call h hdn hc hcall fun v w1 hv => ⟨v, d, hd, look_head, (hs v w1 hv).1, (hs v w1 hv).2⟩
end
end Go.Vc
