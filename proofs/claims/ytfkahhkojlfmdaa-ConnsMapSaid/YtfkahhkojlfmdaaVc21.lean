/- The calculus' twenty-first part: drawn regions whose values are settled, and what is drawn only grows: for calls into the kit's sort. -/
import Derived.Test.YtfkahhkojlfmdaaVc7
import Derived.Sort.Grow
import Derived.Deep.Draws
set_option linter.unusedVariables false
set_option linter.unusedSimpArgs false
namespace Go.Vc
open Go.RowKit
/-- Old blocks are as they were, and no fewer were drawn. -/
def GR (w w' : World) : Prop := Step No w w' ∧ w.drawn ≤ w'.drawn
theorem GR.refl (w : World) : GR w w := ⟨Step.refl _ _, Nat.le_refl _⟩
theorem GR.trans {w w' w'' : World} (h : GR w w') (k : GR w' w'') : GR w w'' := ⟨h.1.trans k.1, Nat.le_trans h.2 k.2⟩
theorem GR.drew (w : World) : GR w w.drew := ⟨drew_step w, Nat.le_succ _⟩
theorem New.drawn {w w' : World} {b : Nat} {o : Obj} (h : New w w' b o) : w'.drawn = w.drawn := by
  obtain ⟨_, rfl⟩ := h
  rfl
section
variable {r : Option Nat} {n : Nat} {ds : List Deferred} {P : Program} {ops : Array Oper} {Q : Exit → Act → World → Prop} {l : List (Nat × Value)} {w : World}
def DetD (r : Option Nat) (n : Nat) (ds : List Deferred) (P : Program) (ops : Array Oper) (Q : Exit → Act → World → Prop) (w : World) (l : List (Nat × Value)) (k : Nat) (v : Value) : Prop :=
  V1 r n ds P ops Q k l w fun l' w'' => ∃ d, dstOf ops k = some d ∧ look l' d = some v ∧ GR w w''

theorem VC_detD {id : Nat} (tbl : List (List Nat)) (m : Nat) (vs : List Value) (ks js : List Nat) (hm : P.follows .mixedOrders = true) (hchk : drawChk n ops tbl m = true) (hcov : allB m (fun k => nmem k ks || nmem k js) = true)
    (hpure : (ks.map fun k => pureAt P n ops (lkv ops tbl m l vs k) k) = ks.map fun k => some (vs.getD k undef))
    (hj : ∀ w1, GR w w1 → AncAll (fun k => DetD r n ds P ops Q w1 (lkv ops tbl m l vs k) k (vs.getD k undef)) js)
    (tail : ∀ w1, GR w w1 → VL r n ds P ops Q m (lmv ops m l vs) w1) : VC r n ds P Q (.region id ops true) l w := by
  have hc := drawChk_spec hchk
  have inSlots : ∀ k j d, j ∈ k :: tb tbl k → dstOf ops j = some d → ∀ ρ, rs ops tbl k ρ d = ρ d := by
    intro k j d hj hd ρ
    unfold rs slotsOf
    rw [show nmem d (List.filterMap (dstOf ops) (k :: tb tbl k)) = true from nmem_iff.2 (List.mem_filterMap.2 ⟨j, hj, hd⟩)]
    rfl
  refine VC_any tbl m hm hchk GR GR.refl (fun h k => GR.trans h k) (fun j ρ _ => ∀ d, dstOf ops j = some d → ρ d = vs.getD j undef) (fun j ρ x y h _ => h) (HAll_of fun k hk => ?_) ?_
  · intro ρ w' hs hanc
    have hw' : GR w w' := (GR.drew w).trans hs
    obtain ⟨d, hd, hdn, hclob⟩ := hc.dst k hk
    have hkn : k < ops.size := by have := hc.le; omega
    have hanc' := AncAll_spec hanc
    have hl : lk ops tbl m l k ρ = lkv ops tbl m l vs k := by
      unfold lk lkv
      congr 1
      rw [List.map_filterMap]
      apply filterMap_congr'
      intro j hj
      cases hdj : dstOf ops j with
      | none => rfl
      | some dj =>
        simp only [Option.map_some, Option.some.injEq, Prod.mk.injEq, true_and]
        have := hanc' j hj dj hdj
        rw [← this, inSlots j j dj (List.mem_cons_self ..) hdj]
    rw [hl]
    have hcv := allB_spec hcov k hk
    simp only [Bool.or_eq_true] at hcv
    have fin : ∀ l' w'', (∃ d, dstOf ops k = some d ∧ look l' d = some (vs.getD k undef) ∧ GR w' w'') → ∃ v d, dstOf ops k = some d ∧ look l' d = some v ∧ GR w' w'' ∧ ∀ d', dstOf ops k = some d' → rs ops tbl k (upd ρ d v) d' = vs.getD k undef := by
      rintro l' w'' ⟨d0, h1, h2, h3⟩
      refine ⟨_, d0, h1, h2, h3, fun d' hd' => ?_⟩
      rw [h1] at hd'
      simp only [Option.some.injEq] at hd'
      subst hd'
      rw [inSlots k k d0 (List.mem_cons_self ..) h1]
      simp [upd]
    rcases hcv with hk1 | hk2
    · have hp := map_eq_at hpure k (nmem_iff.1 hk1)
      obtain ⟨o, ho, hod⟩ : ∃ o, ops[k]? = some o ∧ o.dst = some d := Option.bind_eq_some_iff.1 hd
      unfold pureAt at hp
      rw [ho] at hp
      simp only [hod] at hp
      rw [show Nat.blt d n = true from Nat.ble_eq_true_of_le hdn] at hp
      simp only [cond_true] at hp
      exact V1_pure ho hp hod hdn (fin _ _ ⟨d, hd, look_head, GR.refl _⟩)
    · have h1 := AncAll_spec (hj w' hw') k (nmem_iff.1 hk2)
      intro a ha
      refine wpOpIn_mono ?_ (h1 a ha)
      rintro a' w'' ⟨l', hl', h2⟩
      exact ⟨l', hl', fin l' w'' h2⟩
  · intro ρ w' hs hall
    have hl : lm ops m l ρ = lmv ops m l vs := by
      unfold lm lmv
      congr 1
      rw [List.map_filterMap]
      apply filterMap_congr'
      intro j hj
      cases hdj : dstOf ops j with
      | none => rfl
      | some dj =>
        simp only [Option.map_some, Option.some.injEq, Prod.mk.injEq, true_and]
        have := HAll_spec hall j (List.mem_range.1 hj) dj hdj
        rw [← this, inSlots j j dj (List.mem_cons_self ..) hdj]
    rw [hl]
    exact tail w' ((GR.drew w).trans hs)

theorem DetD_load {d k : Nat} {t : TypeId} {a : Addr} {v : Value} (h : loadOp n ops l k = some (d, t, a)) (hd : dstOf ops k = some d) (hv : Loads P t w a v) : DetD r n ds P ops Q w l k v :=
  V1_load h hv ⟨d, hd, look_head, GR.refl _⟩
theorem DetD_index {d k b o len sz : Nat} {m : Int} (h : indexOp P n ops l k = some (d, b, o, len, sz, m)) (hd : dstOf ops k = some d) (j : Nat) (hk : m = j) (hlt : j < len) (o' : Nat) (ho' : o + j * sz = o') : DetD r n ds P ops Q w l k (.pointer (some ⟨b, o', none⟩)) :=
  V1_index h j hk hlt o' ho' ⟨d, hd, look_head, GR.refl _⟩
theorem DetD_call {d k f : Nat} {args : Array Value} {v : Value} (h : callOp ops l k = some (d, f, args)) (hd : dstOf ops k = some d) (hdn : Nat.blt d n = true) (hc : ∀ (args : Array Value) (w : World), (callFunc f args).run P w = .ok (.enter f args) w) (hcall : CV P f args w fun x w' => x = v ∧ GR w w') : DetD r n ds P ops Q w l k v := by
  refine V1_call h hdn hc hcall ?_
  rintro x w' ⟨rfl, hs⟩
  exact ⟨d, hd, look_head, hs⟩

end
end Go.Vc
