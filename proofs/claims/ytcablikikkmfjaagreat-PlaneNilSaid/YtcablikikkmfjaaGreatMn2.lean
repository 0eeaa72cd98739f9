import Derived.RangeFuncLeaves
import Derived.RangeFuncRecord
import Derived.Test.YtcablikikkmfjaaGreatProg
import Derived.Shelf.SlSortCmp.WholeK
import Derived.Shelf.SlSortCmp.NoneTotal
import Derived.Sort.Grow
import Derived.Deep.Draws
import Derived.Laws.AppendOwn
import Derived.Test.YtcablikikkmfjaaGreatMn1
section
/- The calculus' eleventh part: ranges over a function. -/
set_option linter.unusedVariables false
set_option linter.unusedSimpArgs false
namespace Go.Vc
open Go.RowKit

/-! ### 1. The block of a loop's deferred calls, and the marks among a frame's -/
def Dfr (w : World) (D : Nat) : Prop := w.heap[D]? = some (.deferred (some []))
section
variable {F : Nat → Prop} {w w' : World} {D : Nat}
theorem Dfr.lt (h : Dfr w D) : D < w.heap.size := (Array.getElem?_eq_some_iff.1 h).1
theorem Dfr.step (h : Dfr w D) (hs : Step F w w') (hF : ¬ F D) : Dfr w' D := (hs.block D h.lt hF).trans h
theorem Dfr.no (h : Dfr w D) (hs : Step No w w') : Dfr w' D := h.step hs id
end
def markOf (D : Nat) : Deferred := { target := .collected D, args := #[] }
theorem putObj_step {w : World} {b : Nat} (o : Obj) : Step (Just b) w (w.putObj b o) :=
  ⟨rfl, rfl, rfl, by simp, fun k hk hne => World.putObj_heap_other (fun e => hne e)⟩
theorem putObj_size {w : World} {b : Nat} (o : Obj) : (w.putObj b o).heap.size = w.heap.size := by simp

/-! ### 2. A call of yield -/
def YV (P : Program) (L : Nat) (args : Array Value) (w : World) (R : Value → World → Prop) : Prop :=
  ∃ fn tmps assign body, (Instr.yield L args).run P w = .ok (.round L fn tmps assign body) w ∧ RoundIn (Fx none) 0 P L fn tmps assign body w fun e w' => ∃ v, e = .returned v ∧ R v w'
theorem YV.mono {P : Program} {L : Nat} {args : Array Value} {w : World} {R R' : Value → World → Prop} (h : YV P L args w R) (hr : ∀ v w', R v w' → R' v w') : YV P L args w R' := by
  obtain ⟨fn, tmps, assign, body, h1, h2⟩ := h
  exact ⟨fn, tmps, assign, body, h1, h2.mono fun e w' ⟨v, he, hR⟩ => ⟨v, he, hr v w' hR⟩⟩

section
variable {r : Option Nat} {n : Nat} {ds : List Deferred} {P : Program} {ops : Array Oper} {Q : Exit → Act → World → Prop} {l : List (Nat × Value)} {w : World} {i : Nat}
def yieldOp (ops : Array Oper) (l : List (Nat × Value)) (i : Nat) : Option (Nat × Nat × Array Value) :=
  match ops[i]? with
  | none => none
  | some o =>
    match guardOk ops l o, listed l o, o.dst, o.op with
    | some true, true, some d, .call { callee := .value f, args, .. } =>
      match evL l f with
      | .func (.yield L) first captured => some (d, L, first ++ args.map (evL l))
      | _ => none
    | _, _, _, _ => none

theorem V1_yield {d L : Nat} {args : Array Value} {S : Value → World → Prop} (h : yieldOp ops l i = some (d, L, args)) (hd : Nat.blt d n = true)
    (hcall : YV P L args w S) {K : List (Nat × Value) → World → Prop} (next : ∀ v w', S v w' → K ((d, v) :: l) w') :
    V1 none n ds P ops Q i l w K := by
  unfold yieldOp at h
  cases ho : ops[i]? with
  | none => rw [ho] at h; cases h
  | some o =>
    rw [ho] at h
    simp only at h
    cases hg : guardOk ops l o with
    | none => rw [hg] at h; simp at h
    | some b =>
      cases b with
      | false => rw [hg] at h; simp at h
      | true =>
        cases hl : listed l o with
        | false => rw [hg, hl] at h; simp at h
        | true =>
          cases hdst : o.dst with
          | none => rw [hg, hl, hdst] at h; simp at h
          | some d' =>
            rw [hg, hl, hdst] at h
            cases hop : o.op <;> simp only [hop, reduceCtorEq] at h
            case call cl =>
              obtain ⟨callee, cargs, ts⟩ := cl
              cases callee <;> (try (simp at h; done))
              case value x =>
                cases hx : evL l x <;> simp only [hx, reduceCtorEq] at h
                case func fn first captured =>
                  cases fn <;> simp only [reduceCtorEq, Option.some.injEq, Prod.mk.injEq] at h
                  case yield L' =>
                    obtain ⟨rfl, rfl, hargs⟩ := h
                    obtain ⟨fn', tmps, assign, body, hy, hR⟩ := hcall
                    refine V1_run ho hg hl fun a ha => ?_
                    have hrun : (execOp (evL l) o).run P w = .ok (.round L' fn' tmps assign body) w := by
                      simp only [execOp, hop, resolve, hx, Deferred.ofValue, Sem.run_bind, Sem.run_pure, Result.andThen_ok, invoke]
                      rw [hargs]; exact hy
                    rw [hrun]
                    refine ⟨(fun hd => by cases hd), ?_⟩
                    refine RoundIn.mono hR ?_
                    rintro e w' ⟨v, rfl, hS⟩
                    exact ⟨_, by rw [hdst]; exact ha.put _ (blt_spec hd) _, next v w' hS⟩
theorem VL_yield {d L : Nat} {args : Array Value} {S : Value → World → Prop} (h : yieldOp ops l i = some (d, L, args)) (hd : Nat.blt d n = true) (hi : Nat.blt i ops.size = true)
    (hcall : YV P L args w S) (next : ∀ v w', S v w' → VL none n ds P ops Q (i + 1) ((d, v) :: l) w') :
    VL none n ds P ops Q i l w := VL_of_V1 hi (V1_yield h hd hcall next)
end

/-! ### 3. An iterator's contract: what it hands to yield is told beforehand -/
/-- W0: the world at its call. Rd: what it reads lies there still. J M k: k rounds are over; what was laid before the first one lies below M. -/
def IterC (P : Program) (gf : Nat) (lb : Array Value) (xs : List (Array Value)) (Rd : Nat → World → Prop) : Prop :=
  ∀ (L : Nat) (W0 : World) (J Jx : Nat → Nat → World → Prop),
    (∀ M k W W', J M k W → Step No W W' → J M k W') → (∀ M k W W', Jx M k W → Step No W W' → Jx M k W') → (∀ M k W, J M k W → Rd k W) → Rd 0 W0 →
    (∀ M W, W0.heap.size ≤ M → M ≤ W.heap.size → Step No W0 W → J M 0 W) →
    (∀ M k W args, W0.heap.size ≤ M → M ≤ W.heap.size → xs[k]? = some args → J M k W → YV P L args W fun v W' => Step (fun i => i < W0.heap.size ∨ M ≤ i) W W' ∧ (v = .bool true ∧ J M (k + 1) W' ∨ v = .bool false ∧ Jx M (k + 1) W')) →
    CV P gf (#[.func (.yield L) #[] #[]] ++ lb) W0 fun _ W' => ∃ M, W0.heap.size ≤ M ∧ (J M xs.length W' ∨ ∃ k, k ≤ xs.length ∧ Jx M k W')

/-! ### 4. The statement -/
section
variable {r : Option Nat} {n : Nat} {ds : List Deferred} {P : Program} {Q : Exit → Act → World → Prop} {l : List (Nat × Value)} {w : World}

def codeExit : Code → Option Exit
  | .ret => some .ret
  | .exit id => some (.exit id)
  | _ => none

/-- How a round may be left: W3: the world at its body's start. -/
def RoundQ (Fb : Nat → Prop) (J : World → Prop) (Jx : Exit → World → Prop) (W3 : World) : Exit → Act → World → Prop
  | .normal, _, w' => Step Fb W3 w' ∧ J w'
  | .exit id, _, w' => Step Fb W3 w' ∧ Jx (.exit id) w'
  | .ret, _, w' => Step Fb W3 w' ∧ Jx .ret w'
  | _, _, _ => False
/-- Behind the assignments to the loop's left sides. -/
def AsgQ (P : Program) (L : Nat) (body : Code) (Qr : World → Exit → Act → World → Prop) (W : World) : Exit → Act → World → Prop
  | .normal, a, w2 => Step No W w2 ∧ ∀ w3, Step (Just L) w2 w3 → w3.heap.size = w2.heap.size → body.wpIn (Fx (some L)) 0 P (Qr w3) a w3
  | _, _, _ => False
theorem VQ_begin {L : Nat} {body : Code} {Qr : World → Exit → Act → World → Prop} {W : World} (hs : Step No W w) (h : ∀ w3, Step (Just L) w w3 → w3.heap.size = w.heap.size → VC (some L) n ds P (Qr w3) body l w3) :
    VQ n ds (AsgQ P L body Qr W) .normal l w := fun a ha => ⟨hs, fun w3 h3 hz => h w3 h3 hz a ha⟩
theorem VQ_round_end {Fb : Nat → Prop} {J : World → Prop} {Jx : Exit → World → Prop} {W3 : World} (hs : Step Fb W3 w) (hJ : J w) : VQ n ds (RoundQ Fb J Jx W3) .normal l w := fun _ _ => ⟨hs, hJ⟩
theorem VQ_round_exit {Fb : Nat → Prop} {J : World → Prop} {Jx : Exit → World → Prop} {W3 : World} {id : Nat} (hs : Step Fb W3 w) (hJ : Jx (.exit id) w) : VQ n ds (RoundQ Fb J Jx W3) (.exit id) l w := fun _ _ => ⟨hs, hJ⟩
theorem zip_foldl {ps : List Nat} {vs : List Value} {t : Array Value} {l : List (Nat × Value)} (hn : t.size = n) (ht : ∀ k v, look l k = some v → t[k]? = some v) (hps : ∀ p ∈ ps, p < n) :
    ((ps.zip vs).foldl (fun t (x : Nat × Value) => t.setIfInBounds x.1 x.2) t).size = n ∧ ∀ k v, look ((ps.zip vs).reverse ++ l) k = some v → ((ps.zip vs).foldl (fun t (x : Nat × Value) => t.setIfInBounds x.1 x.2) t)[k]? = some v := by
  induction ps generalizing vs t l with
  | nil => exact ⟨by simpa using hn, by simpa using ht⟩
  | cons p ps ih =>
    cases vs with
    | nil => exact ⟨by simpa using hn, by simpa using ht⟩
    | cons v vs =>
      have := ih (vs := vs) (t := t.setIfInBounds p v) (l := (p, v) :: l) (by simpa using hn) (by
        intro k u hk
        simp only [look] at hk
        cases e : Nat.beq p k with
        | true =>
          rw [e] at hk; cases hk
          have : p = k := Nat.eq_of_beq_eq_true e
          subst this
          rw [Array.getElem?_setIfInBounds_self_of_lt (by rw [hn]; exact hps _ (by simp))]
        | false =>
          rw [e] at hk
          rw [Array.getElem?_setIfInBounds_ne (Nat.ne_of_beq_eq_false e)]
          exact ht k u hk) (fun q hq => hps q (by simp [hq]))
      refine ⟨this.1, ?_⟩
      intro k u hk
      refine this.2 k u ?_
      simpa [List.append_assoc] using hk

theorem VC_range {g : Operand} {ps : Array Tmp} {assign body : Code} {gf : Nat} {lb : Array Value} {xs : List (Array Value)} {Rd : Nat → World → Prop} (hg : opV l g = some (.func (.func gf) #[] lb))
    (eg : ∀ (args : Array Value) (w : World), (callFunc gf args).run P w = .ok (.enter gf args) w) (hc : IterC P gf lb xs Rd) (hps : ∀ a ∈ xs, a.size = ps.size) (hpn : ps.toList.all (fun p => Nat.blt p n) = true)
    (Fb : Nat → Nat → Prop) (hFb : ∀ M i, Fb M i → i < w.heap.size ∨ M ≤ i) (J : Nat → Nat → World → Prop) (Jx : Exit → World → Prop)
    (hJ : ∀ M k W W', J M k W → Step (Just (w.heap.size + 1)) W W' → J M k W') (hJx : ∀ e W W', Jx e W → Step (Just (w.heap.size + 1)) W W' → Jx e W')
    (hJn : ∀ M k W W', J M k W → Step No W W' → J M k W') (hJxn : ∀ e W W', Jx e W → Step No W W' → Jx e W')
    (hrd : ∀ M k W, J M k W → Rd k W) (hrd0 : ∀ W, Step No w W → Rd 0 W)
    (h0 : ∀ M W, w.heap.size + 2 ≤ M → M ≤ W.heap.size → Step No w W → Dfr W w.heap.size → J M 0 W)
    (hround : ∀ M k W args, w.heap.size + 2 ≤ M → M ≤ W.heap.size → xs[k]? = some args → J M k W → w.heap.size + 1 < W.heap.size →
      VC (some (w.heap.size + 1)) n [] P (AsgQ P (w.heap.size + 1) body (RoundQ (Fb M) (J M (k + 1)) Jx) W) assign ((ps.toList.zip args.toList).reverse ++ l) W)
    (hdone : ∀ M W, w.heap.size + 2 ≤ M → w.heap.size + 2 ≤ W.heap.size → J M xs.length W → Dfr W w.heap.size → VQ n (markOf w.heap.size :: ds) Q .normal l W)
    (hstop : ∀ e W, w.heap.size + 2 ≤ W.heap.size → Jx e W → Dfr W w.heap.size → VQ n (markOf w.heap.size :: ds) Q e l W) :
    VC none n ds P Q (.rangeFunc g ps assign body) l w := by
  intro a ha
  have hev := opV_spec ha hg
  refine wpIn_rangeFunc ?_
  intro fn hfn
  obtain ⟨rec, hrec⟩ : ∃ rec : LoopState → Option Code → Loop, rec = fun st pe => { state := st, pending := pe, fn, tmps := a.tmps, params := ps, assign, body, defers := w.heap.size } := ⟨_, rfl⟩
  obtain ⟨W1, hW1⟩ : ∃ W1, (w.alloc (.deferred (some []))).alloc (.loop (rec .ready none)) = W1 := ⟨_, rfl⟩
  have hz1 : W1.heap.size = w.heap.size + 2 := by rw [← hW1]; simp
  have hL1 : W1.heap[w.heap.size + 1]? = some (.loop (rec .ready none)) := by
    rw [← hW1]; have := World.alloc_heap_new (w.alloc (.deferred (some []))) (.loop (rec .ready none)); rwa [World.size_alloc] at this
  have hK1 : Dfr W1 w.heap.size := by
    unfold Dfr; rw [← hW1]; exact (Below.heap_alloc _ _ _ (by simp)).trans (World.alloc_heap_new w _)
  have hs1 : Step No w W1 := by
    rw [← hW1]
    exact ⟨rfl, rfl, rfl, by simp; omega, fun k hk _ => (Below.heap_alloc _ _ _ (by simp; omega)).trans (Below.heap_alloc _ _ _ hk)⟩
  refine ⟨w.heap.size + 1, [markOf w.heap.size], W1, { target := .fn (.func gf) lb, args := #[.func (.yield (w.heap.size + 1)) #[] #[]] }, W1, gf,
    #[.func (.yield (w.heap.size + 1)) #[] #[]] ++ lb, W1, ?_, ?_, ?_, ?_, (fun hd => by cases hd), ?_⟩
  · rw [← hW1, hrec]; exact run_enterLoop_outer _ _ _ _ _
  · simp only [resolve, hev]
    simp [go_sem]
  · intro f' _; exact trivial
  · simp [invoke, go_sem, eg]
  · have hstepL : ∀ {W : World} (o : Obj), Step (Just (w.heap.size + 1)) W (W.putObj (w.heap.size + 1) o) := fun o => putObj_step o
    refine callsIn_Fx ?_
    refine Calls.mono (hc (w.heap.size + 1) W1
      (fun M k W => J M k W ∧ W.heap[w.heap.size + 1]? = some (.loop (rec .ready none)) ∧ Dfr W w.heap.size ∧ M ≤ W.heap.size)
      (fun M k W => ∃ c e, codeExit c = some e ∧ Jx e W ∧ W.heap[w.heap.size + 1]? = some (.loop (rec .done (some c))) ∧ Dfr W w.heap.size) ?_ ?_ ?_ ?_ ?_ ?_) ?_
    · rintro M k W W' ⟨hj, hl, hk, hm⟩ hs
      exact ⟨hJn M k W W' hj hs, (hs.no (Array.getElem?_eq_some_iff.1 hl).1).trans hl, hk.no hs, Nat.le_trans hm hs.size⟩
    · rintro M k W W' ⟨c, e, hce, hj, hl, hk⟩ hs
      exact ⟨c, e, hce, hJxn e W W' hj hs, (hs.no (Array.getElem?_eq_some_iff.1 hl).1).trans hl, hk.no hs⟩
    · rintro M k W ⟨hj, _⟩; exact hrd M k W hj
    · exact hrd0 W1 hs1
    · intro M W hM hM2 hs
      rw [hz1] at hM
      exact ⟨h0 M W hM hM2 (hs1.trans hs) (hK1.no hs), (hs.no (by omega)).trans hL1, hK1.no hs, hM2⟩
    · rintro M k W args hM hM2 hx ⟨hj, hl, hk, hm⟩
      rw [hz1] at hM
      have hmem : args ∈ xs := List.mem_of_getElem? hx
      have hy := run_yield (P := P) (args := args) hl (by rw [hrec]; exact hps args hmem)
      rw [hrec] at hy
      have hlt : w.heap.size + 1 < W.heap.size := (Array.getElem?_eq_some_iff.1 hl).1
      refine ⟨fn, _, assign, body, hy, roundIn_of_wpIn hfn ?_⟩
      have hz := zip_foldl (n := n) (ps := ps.toList) (vs := args.toList) (t := a.tmps) (l := l) ha.size ha.get (fun p hp => blt_spec (List.all_eq_true.1 hpn p hp))
      have hfold : ((ps.zip args).foldl (fun tmps (x : Tmp × Value) => tmps.setIfInBounds x.1 x.2) a.tmps) = ((ps.toList.zip args.toList).foldl (fun t (x : Nat × Value) => t.setIfInBounds x.1 x.2) a.tmps) := by
        rw [← Array.foldl_toList, Array.toList_zip]
      refine wpIn_mono (hround M k W args hM hM2 hx hj hlt { tmps := _, defers := [] } ⟨by rw [hfold]; exact hz.1, rfl, fun t v ht => by rw [hfold]; exact hz.2 t v ht⟩) ?_
      rintro e a2 w2 hq
      cases e <;> (try exact hq.elim)
      obtain ⟨hs2, hq⟩ := hq
      have hl2 : w2.heap[w.heap.size + 1]? = some (.loop (rec .ready none)) := (hs2.no hlt).trans hl
      have hlt2 : w.heap.size + 1 < w2.heap.size := (Array.getElem?_eq_some_iff.1 hl2).1
      have hk2 := hk.no hs2
      obtain ⟨W3, hW3⟩ : ∃ W3, w2.putObj (w.heap.size + 1) (.loop { rec .ready none with state := .busy }) = W3 := ⟨_, rfl⟩
      have hs3 : Step (Just (w.heap.size + 1)) w2 W3 := hW3 ▸ putObj_step _
      have hz3 : W3.heap.size = w2.heap.size := by rw [← hW3]; exact putObj_size _
      have hl3 : W3.heap[w.heap.size + 1]? = some (.loop { rec .ready none with state := .busy }) := by rw [← hW3]; exact World.putObj_heap_same hlt2
      have hk3 : Dfr W3 w.heap.size := hk2.step hs3 (by simp)
      refine ⟨W3, by rw [← hW3]; exact run_beginRound hl2 (by rw [hrec]), ?_⟩
      refine wpIn_mono (hq W3 hs3 hz3) ?_
      have hgrow : W.heap.size ≤ W3.heap.size := by have := hs2.size; omega
      have fin : ∀ (jump : Option Code) (W4 : World), Step (Fb M) W3 W4 →
          (Instr.endRound (w.heap.size + 1) jump).run P W4 = .ok (.bool jump.isNone) (W4.putObj (w.heap.size + 1) (.loop (rec (if jump.isNone then .ready else .done) jump))) ∧
          (W4.putObj (w.heap.size + 1) (.loop (rec (if jump.isNone then .ready else .done) jump))).heap[w.heap.size + 1]? = some (.loop (rec (if jump.isNone then .ready else .done) jump)) ∧
          Dfr (W4.putObj (w.heap.size + 1) (.loop (rec (if jump.isNone then .ready else .done) jump))) w.heap.size ∧
          Step (fun i => i < W1.heap.size ∨ M ≤ i) W (W4.putObj (w.heap.size + 1) (.loop (rec (if jump.isNone then .ready else .done) jump))) ∧
          M ≤ (W4.putObj (w.heap.size + 1) (.loop (rec (if jump.isNone then .ready else .done) jump))).heap.size := fun jump W4 hs4 => by
        have hnL : ¬ Fb M (w.heap.size + 1) := fun h => by have := hFb _ _ h; omega
        have hnD : ¬ Fb M w.heap.size := fun h => by have := hFb _ _ h; omega
        have hl4 : W4.heap[w.heap.size + 1]? = some (.loop { rec .ready none with state := .busy }) := (hs4.block _ (by omega) hnL).trans hl3
        have hk4 : Dfr W4 w.heap.size := hk3.step hs4 hnD
        have hr := run_endRound (P := P) jump hl4
        have hlt4 := (Array.getElem?_eq_some_iff.1 hl4).1
        rw [hrec] at hr ⊢
        refine ⟨hr, World.putObj_heap_same hlt4, hk4.step (putObj_step _) (by simp), ?_, by rw [putObj_size]; have := hs4.size; omega⟩
        refine Step.trans (hs2.weak) (Step.trans (hs3.mono fun i hi => .inl (by rw [hz1]; have : i = w.heap.size + 1 := hi; omega)) (Step.trans (hs4.mono fun i hi => ?_) ((putObj_step _).mono fun i hi => .inl (by rw [hz1]; have : i = w.heap.size + 1 := hi; omega))))
        rcases hFb M i hi with h | h
        · exact .inl (by omega)
        · exact .inr h
      rintro e a3 W4 hp
      cases e with
      | normal =>
        obtain ⟨hs4, hj4⟩ := hp
        obtain ⟨hr, hl5, hk5, hs5, hm5⟩ := fin none W4 hs4
        exact ⟨_, _, hr, _, rfl, hs5, .inl ⟨rfl, hJ _ _ _ _ hj4 (putObj_step _), hl5, hk5, hm5⟩⟩
      | ret =>
        obtain ⟨hs4, hj4⟩ := hp
        obtain ⟨hr, hl5, hk5, hs5, hm5⟩ := fin (some .ret) W4 hs4
        exact ⟨_, _, hr, _, rfl, hs5, .inr ⟨rfl, .ret, .ret, rfl, hJx _ _ _ hj4 (putObj_step _), hl5, hk5⟩⟩
      | exit id =>
        obtain ⟨hs4, hj4⟩ := hp
        obtain ⟨hr, hl5, hk5, hs5, hm5⟩ := fin (some (.exit id)) W4 hs4
        exact ⟨_, _, hr, _, rfl, hs5, .inr ⟨rfl, .exit id, .exit id, rfl, hJx _ _ _ hj4 (putObj_step _), hl5, hk5⟩⟩
      | goto t => exact hp.elim
      | panic ch => exact hp.elim
      | outgrown => exact hp.elim
    · rintro e W2 ⟨v, rfl, M, hM, (⟨hj, hl, hk, hm⟩ | ⟨k, hkl, c, e', hce, hj, hl, hk⟩)⟩
      · rw [hz1] at hM
        have hlt := (Array.getElem?_eq_some_iff.1 hl).1
        refine ⟨none, _, by have := run_endLoop (P := P) hl (by rw [hrec]; simp); rw [hrec] at this; exact this, ?_⟩
        exact hdone M _ hM (by rw [putObj_size]; omega) (hJ _ _ _ _ hj (putObj_step _)) (hk.step (putObj_step _) (by simp)) _ ⟨ha.size, by simp [ha.defers], ha.get⟩
      · have hlt := (Array.getElem?_eq_some_iff.1 hl).1
        refine ⟨some c, _, by have := run_endLoop (P := P) hl (by rw [hrec]; simp); rw [hrec] at this; exact this, ?_⟩
        have hq := hstop e' (W2.putObj (w.heap.size + 1) (.loop { rec .done (some c) with state := .exhausted })) (by rw [putObj_size]; omega) (hJx _ _ _ hj (putObj_step _)) (hk.step (putObj_step _) (by simp)) { a with defers := [markOf w.heap.size] ++ a.defers } ⟨ha.size, by simp [ha.defers], ha.get⟩
        rw [hrec] at hq
        cases c <;> simp only [codeExit, reduceCtorEq, Option.some.injEq] at hce
        · subst hce; exact wpIn_exit hq
        · subst hce; exact wpIn_ret hq

/-! ### 5. The end of a function with marks -/
theorem CV_enterM {f : FuncId} {args : Array Value} {S : Value → World → Prop} (fn : Func) (c : Code) (n : Nat) (l0 : List (Nat × Value)) (hf : P.funcs[f]? = some fn) (hb : fn.body = some c)
    (hn : fn.ntmps = n) (ha : Nat.ble args.toList.length n = true) (hl : zipArgs 0 args.toList = l0) (h : VC none n [] P (bodyPostM (Fx none) 0 P fn (PostV S)) c l0 w) : CV P f args w S := by
  refine (callsIn_wide (n := 0)).1 (callsIn_of_wp_marks hf hb trivial ?_)
  refine h _ ⟨?_, rfl, fun t v hv => ?_⟩
  · have := Nat.le_of_ble_eq_true ha
    simp at this
    simp [hn]
    omega
  · rw [← hl] at hv
    obtain ⟨_, h2⟩ := look_zipArgs _ _ _ _ hv
    simp only [Nat.sub_zero, Array.getElem?_toList] at h2
    obtain ⟨hlt, _⟩ := Array.getElem?_eq_some_iff.1 h2
    rw [Array.getElem?_append_left hlt]
    exact h2

/-- The marks' blocks lie there, each once. -/
def Marks : List Nat → World → Prop
  | [], _ => True
  | D :: Ds, w => Dfr w D ∧ D ∉ Ds ∧ Marks Ds w
theorem Marks.step {F : Nat → Prop} {w w' : World} : ∀ {Ds : List Nat}, Marks Ds w → Step F w w' → (∀ D ∈ Ds, ¬ F D) → Marks Ds w'
  | [], _, _, _ => trivial
  | D :: Ds, h, hs, hF => ⟨h.1.step hs (hF D (by simp)), h.2.1, h.2.2.step hs fun D' hD' => hF D' (by simp [hD'])⟩
theorem leavesM {fn : Func} {tmps : Array Value} {R : Ending → World → Prop} : ∀ (Ds : List Nat) (w : World), Marks Ds w →
    (∀ w', Step (fun i => i ∈ Ds) w w' → ∃ v, (results fn tmps).run P w' = .ok v w' ∧ R (.returned v) w') → LeavesInM (Fx none) 0 P fn tmps R (Ds.map markOf) .returning w
  | [], w, _, h => by
    obtain ⟨v, h1, h2⟩ := h w (Step.refl _ _)
    exact ⟨v, h1, h2⟩
  | D :: Ds, w, hm, h => by
    refine ⟨by simp, .inl ⟨D, w.putObj D (.deferred none), rfl, run_takeDeferred hm.1, ?_⟩⟩
    refine leavesM Ds _ (hm.2.2.step (putObj_step _) (fun D' hD' e => hm.2.1 (by rw [← show D' = D from e]; exact hD'))) fun w' hs => h w' ?_
    exact Step.trans ((putObj_step _).mono fun i hi => by simp [show i = D from hi]) (hs.mono fun i hi => by simp [hi])
theorem VQ_retM1 {fn : Func} {S : Value → World → Prop} {t : Nat} (v : Value) (Ds : List Nat) {e : Exit} (he : e = .normal ∨ e = .ret) (hr : fn.results = #[.tmp t]) (hv : look l t = some v) (hm : Marks Ds w) (hS : ∀ w', Step (fun i => i ∈ Ds) w w' → S v w') :
    VQ n (Ds.map markOf) (bodyPostM (Fx none) 0 P fn (PostV S)) e l w := by
  intro a ha
  have : LeavesInM (Fx none) 0 P fn a.tmps (PostV S) a.defers .returning w := by
    rw [ha.defers]
    exact leavesM Ds w hm fun w' hs => ⟨v, by rw [results_tmp hr]; simp [Array.getD_eq_getD_getElem?, ha.get t v hv], v, rfl, hS w' hs⟩
  rcases he with rfl | rfl <;> exact this
end
end Go.Vc
end

section
/- The calculus in few words: frames are not told but reckoned; what is plain is run up to the next operation that acts. -/
set_option linter.unusedVariables false
set_option linter.unusedSimpArgs false
namespace Go.Vc
open Go.RowKit
abbrev Pt (b o : Nat) : Value := .pointer (some ⟨b, o, none⟩)
abbrev I6 (x : Int) : Value := .int .i64 x
abbrev Bo (b : Bool) : Value := .bool b
section
variable {r : Option Nat} {n : Nat} {ds : List Deferred} {P : Program} {ops : Array Oper} {Q : Exit → Act → World → Prop} {l : List (Nat × Value)} {w : World} {i : Nat} {c x y : Code} {e : Exit}
theorem Vs (h : VC r n ds P (Exit.then (y.wpIn (Fx r) 0 P Q) Q) x l w) : VC r n ds P Q (.seq x y) l w := VC_seq h
theorem Vr {id : Nat} (h : VL r n ds P ops Q 0 l w) : VC r n ds P Q (.region id ops false) l w := VC_region h
theorem Vn (h : VC r n ds P Q y l w) : VQ n ds (Exit.then (y.wpIn (Fx r) 0 P Q) Q) .normal l w := h
/-- Plain operations up to number j. -/
def pr (P : Program) (n : Nat) (ops : Array Oper) (j i : Nat) (l : List (Nat × Value)) : List (Nat × Value) := (pureRun P n ops (j - i) i l).getD []
def prk (P : Program) (n : Nat) (ops : Array Oper) (j i : Nat) (l : List (Nat × Value)) : Bool := (pureRun P n ops (j - i) i l).isSome && Nat.ble i j
theorem prk_spec {j : Nat} (h : prk P n ops j i l = true) : pureRun P n ops (j - i) i l = some (pr P n ops j i l) ∧ i ≤ j := by
  simp only [prk, Bool.and_eq_true] at h
  obtain ⟨v, hv⟩ := Option.isSome_iff_exists.1 h.1
  exact ⟨by unfold pr; rw [hv]; rfl, Nat.le_of_ble_eq_true h.2⟩
theorem Vp (j : Nat) (next : VL r n ds P ops Q j (pr P n ops j i l) w) (h : prk P n ops j i l = true := by kernel_rfl) : VL r n ds P ops Q i l w := by
  obtain ⟨h1, h2⟩ := prk_spec h
  refine VL_pureRun (j - i) i l _ h1 ?_
  rw [show i + (j - i) = j from by omega]
  exact next
/-- All that is left is plain. -/
theorem Ve (next : VQ n ds Q .normal (pr P n ops ops.size i l) w) (h : prk P n ops ops.size i l = true := by kernel_rfl) : VL r n ds P ops Q i l w :=
  Vp ops.size (VL_end (Nat.ble_eq_true_of_le (Nat.le_refl _)) next) h
theorem Ven (next : VC r n ds P Q y (pr P n ops ops.size i l) w) (h : prk P n ops ops.size i l = true := by kernel_rfl) : VL r n ds P ops (Exit.then (y.wpIn (Fx r) 0 P Q) Q) i l w := Ve (VQ_next next) h
theorem Vrp {id : Nat} (next : VC r n ds P Q y (pr P n ops ops.size 0 l) w) (h : prk P n ops ops.size 0 l = true := by kernel_rfl) : VC r n ds P Q (.seq (.region id ops false) y) l w := VC_seq (VC_region (Ven next h))
/-- A load out of a block of one's own. -/
def ldo (P : Program) (n : Nat) (ops : Array Oper) (l : List (Nat × Value)) (j : Nat) (c : Array Value) : Option (Nat × Nat × Nat × TypeId × Value) :=
  match loadOp n ops l j with
  | some (d, t, ⟨b, o, none⟩) => bif oneB P t then (c[o]?).map fun v => (d, b, o, t, v) else match aggB P t with
    | some k => bif Nat.ble (o + k) c.size then some (d, b, o, t, .agg (c.extract o (o + k))) else none
    | none => none
  | _ => none
theorem ldo_spec {j d b o : Nat} {t : TypeId} {v : Value} {cs : Array Value} {e : TypeId} (h : ldo P n ops l j cs = some (d, b, o, t, v)) (ho : Blk w b cs e) : loadOp n ops l j = some (d, t, ⟨b, o, none⟩) ∧ Loads P t w ⟨b, o, none⟩ v := by
  unfold ldo at h
  split at h
  · rename_i _ d' t' b' o' hl
    cases h1 : oneB P t' with
    | true =>
      rw [h1] at h
      simp only [cond_true, Option.map_eq_some_iff, Prod.mk.injEq] at h
      obtain ⟨v', hv, rfl, rfl, rfl, rfl, rfl⟩ := h
      exact ⟨hl, Loads.blk1 ho h1 hv⟩
    | false =>
      rw [h1] at h
      simp only [cond_false] at h
      cases h2 : aggB P t' with
      | none => rw [h2] at h; cases h
      | some k =>
        rw [h2] at h
        simp only at h
        cases h3 : Nat.ble (o' + k) cs.size with
        | false => rw [h3] at h; cases h
        | true =>
          rw [h3] at h
          simp only [cond_true, Option.some.injEq, Prod.mk.injEq] at h
          obtain ⟨rfl, rfl, rfl, rfl, rfl⟩ := h
          exact ⟨hl, Loads.blk ho h2 (Nat.le_of_ble_eq_true h3) rfl⟩
  · cases h
theorem ldo_op {j d b o : Nat} {t : TypeId} {v : Value} {cs : Array Value} (h : ldo P n ops l j cs = some (d, b, o, t, v)) : loadOp n ops l j = some (d, t, ⟨b, o, none⟩) := by
  unfold ldo at h
  split at h
  · rename_i _ d' t' b' o' hl
    cases h1 : oneB P t' with
    | true =>
      rw [h1] at h
      simp only [cond_true, Option.map_eq_some_iff, Prod.mk.injEq] at h
      obtain ⟨v', hv, rfl, rfl, rfl, rfl, rfl⟩ := h
      exact hl
    | false =>
      rw [h1] at h
      simp only [cond_false] at h
      cases h2 : aggB P t' with
      | none => rw [h2] at h; cases h
      | some k =>
        rw [h2] at h
        simp only at h
        cases h3 : Nat.ble (o' + k) cs.size with
        | false => rw [h3] at h; cases h
        | true =>
          rw [h3] at h
          simp only [cond_true, Option.some.injEq, Prod.mk.injEq] at h
          obtain ⟨rfl, rfl, rfl, rfl, rfl⟩ := h
          exact hl
  · cases h
def lnx (x : Option (Nat × Nat × Nat × TypeId × Value)) (l : List (Nat × Value)) : List (Nat × Value) := match x with
  | some (d, _, _, _, v) => (d, v) :: l
  | none => l
theorem VbL {b : Nat} {cs : Array Value} {e : TypeId} (ho : Blk w b cs e) (h : (ldo P n ops l i cs).map (fun x => x.2.1) = some b) (hi : Nat.blt i ops.size = true) (next : VL r n ds P ops Q (i + 1) (lnx (ldo P n ops l i cs) l) w) : VL r n ds P ops Q i l w := by
  obtain ⟨⟨d, b', o, t, v⟩, hx, rfl⟩ := Option.map_eq_some_iff.1 h
  obtain ⟨h1, h2⟩ := ldo_spec hx ho
  rw [hx] at next
  exact VL_load h1 hi h2 next
theorem Vl {b : Nat} {cs : Array Value} {e : TypeId} (j : Nat) (ho : Own w b cs e) (next : VL r n ds P ops Q (j + 1) (lnx (ldo P n ops (pr P n ops j i l) j cs) (pr P n ops j i l)) w) (hp : prk P n ops j i l = true := by kernel_rfl) (h : (ldo P n ops (pr P n ops j i l) j cs).map (fun x => x.2.1) = some b := by kernel_rfl) (hi : Nat.blt j ops.size = true := by kernel_rfl) : VL r n ds P ops Q i l w :=
  Vp j (VbL ho.blk h hi next) hp
/-- The slot of operation j. -/
def ds0 (ops : Array Oper) (j : Nat) : Nat := (dstOf ops j).getD 0
theorem Vla (j : Nat) {t : TypeId} {a : Addr} {v : Value} (hv : Loads P t w a v) (next : VL r n ds P ops Q (j + 1) ((ds0 ops j, v) :: pr P n ops j i l) w) (hp : prk P n ops j i l = true := by kernel_rfl) (h : loadOp n ops (pr P n ops j i l) j = some (ds0 ops j, t, a) := by kernel_rfl) (hi : Nat.blt j ops.size = true := by kernel_rfl) : VL r n ds P ops Q i l w :=
  Vp j (VL_load h hi hv next) hp
theorem Vc (j : Nat) {f : FuncId} {args : Array Value} {S : Value → World → Prop} (hc : ∀ (args : Array Value) (w : World), (callFunc f args).run P w = .ok (.enter f args) w) (hcall : CV P f args w S) (next : ∀ v w', S v w' → VL r n ds P ops Q (j + 1) ((ds0 ops j, v) :: pr P n ops j i l) w') (hp : prk P n ops j i l = true := by kernel_rfl) (h : callOp ops (pr P n ops j i l) j = some (ds0 ops j, f, args) := by kernel_rfl) (hd : Nat.blt (ds0 ops j) n = true := by kernel_rfl) (hi : Nat.blt j ops.size = true := by kernel_rfl) : VL r n ds P ops Q i l w :=
  Vp j (VL_call h hd hi hc hcall next) hp
theorem Vx (j : Nat) (t : TypeId) (cs : Array Value) (next : ∀ b w1, New w w1 b (.cells cs t) → VL r n ds P ops Q (j + 1) ((ds0 ops j, Pt b 0) :: pr P n ops j i l) w1) (hp : prk P n ops j i l = true := by kernel_rfl) (h : boxOp P n ops (pr P n ops j i l) j = some (ds0 ops j, t, cs) := by kernel_rfl) (hi : Nat.blt j ops.size = true := by kernel_rfl) : VL r n ds P ops Q i l w :=
  Vp j (VL_box h hi next) hp
theorem Vst (j : Nat) {b o : Nat} (vs : List Value) {cs : Array Value} {e : TypeId} (hB : Own w b cs e) (cs' : Array Value) (next : ∀ w1, Wr w w1 b cs' e → VL r n ds P ops Q (j + 1) (pr P n ops j i l) w1) (hp : prk P n ops j i l = true := by kernel_rfl) (h : storeOp P ops (pr P n ops j i l) j = some (b, o, vs) := by kernel_rfl) (hi : Nat.blt j ops.size = true := by kernel_rfl) (hsz : Nat.ble (o + vs.length) cs.size = true := by kernel_rfl) (hcs : setRow cs o vs = cs' := by kernel_rfl) : VL r n ds P ops Q i l w :=
  Vp j (VL_store h hi hB (Nat.le_of_ble_eq_true hsz) fun w1 hw => next w1 (hcs ▸ hw)) hp
theorem Su {l' : List (Nat × Value)} (h : keep (l'.map fun x => x.1) l = some l' := by kernel_rfl) : Sub l' l := keep_sub h
theorem Vk {l' : List (Nat × Value)} (ks : List Nat) (h : VL r n ds P ops Q i l' w) (hs : keep ks l = some l' := by kernel_rfl) : VL r n ds P ops Q i l w := VL_keep ks l' hs h
theorem Vt {o : Operand} (ht : VC r n ds P Q x l w) (ho : opV l o = some (.bool true) := by kernel_rfl) : VC r n ds P Q (.cond o x y) l w := VC_true ho ht
theorem Vf {o : Operand} (ht : VC r n ds P Q y l w) (ho : opV l o = some (.bool false) := by kernel_rfl) : VC r n ds P Q (.cond o x y) l w := VC_false ho ht
theorem Vif {o : Operand} (b : Bool) (ht : b = true → VC r n ds P Q x l w) (hf : b = false → VC r n ds P Q y l w) (ho : opV l o = some (.bool b) := by kernel_rfl) : VC r n ds P Q (.cond o x y) l w := VC_cond b ho ht hf
theorem Vid {o : Operand} (p : Prop) [Decidable p] (ht : p → VC r n ds P Q x l w) (hf : ¬p → VC r n ds P Q y l w) (ho : opV l o = some (.bool (decide p)) := by kernel_rfl) : VC r n ds P Q (.cond o x y) l w := VC_dec p ho ht hf
theorem Vie {o : Operand} (p q : Int) (ht : p = q → VC r n ds P Q x l w) (hf : p ≠ q → VC r n ds P Q y l w) (ho : opV l o = some (.bool (p == q)) := by kernel_rfl) : VC r n ds P Q (.cond o x y) l w := VC_eq p q ho ht hf
theorem Viu {o : Operand} (p q : Int) (ht : p ≠ q → VC r n ds P Q x l w) (hf : p = q → VC r n ds P Q y l w) (ho : opV l o = some (.bool (p != q)) := by kernel_rfl) : VC r n ds P Q (.cond o x y) l w := VC_ne p q ho ht hf
theorem Vit {o : Operand} {b : Bool} (hb : b = true) (hn : VC r n ds P Q x l w) (ho : opV l o = some (.bool b) := by kernel_rfl) : VC r n ds P Q (.cond o x y) l w := VC_is true ho hb hn
theorem Viz {o : Operand} {b : Bool} (hb : b = false) (hn : VC r n ds P Q y l w) (ho : opV l o = some (.bool b) := by kernel_rfl) : VC r n ds P Q (.cond o x y) l w := VC_is false ho hb hn
theorem VCe {f : FuncId} {args : Array Value} {S : Value → World → Prop} {fn : Func} (hf : P.funcs[f]? = some fn) (h : VC none n [] P (bodyPost P fn (PostV S)) c (zipArgs 0 args.toList) w) (hb : fn.body = some c := by rfl) (hn : fn.ntmps = n := by rfl) (ha : Nat.ble args.toList.length n = true := by kernel_rfl) : CV P f args w S :=
  CV_enter fn _ _ _ hf hb hn ha rfl h
theorem Vr1 {fn : Func} {S : Value → World → Prop} {t : Nat} (v : Value) (hS : S v w) (he : e = .normal ∨ e = .ret := by first | exact .inr rfl | exact .inl rfl) (hr : fn.results = #[.tmp t] := by rfl) (hv : look l t = some v := by kernel_rfl) : VQ n [] (bodyPost P fn (PostV S)) e l w := VQ_ret1 v he hr hv hS
theorem Vr0 {fn : Func} {S : Value → World → Prop} (hS : S (.tuple #[]) w) (he : e = .normal ∨ e = .ret := by first | exact .inr rfl | exact .inl rfl) (hr : fn.results = #[] := by rfl) : VQ n [] (bodyPost P fn (PostV S)) e l w := VQ_ret0 he hr hS
theorem Vr2 {fn : Func} {S : Value → World → Prop} {t u : Nat} (v v' : Value) (hS : S (.tuple #[v, v']) w) (he : e = .normal ∨ e = .ret := by first | exact .inr rfl | exact .inl rfl) (hr : fn.results = #[.tmp t, .tmp u] := by rfl) (hv : look l t = some v := by kernel_rfl) (hv' : look l u = some v' := by kernel_rfl) : VQ n [] (bodyPost P fn (PostV S)) e l w := VQ_ret2 v v' he hr hv hv' hS
theorem VCm {f : FuncId} {args : Array Value} {S : Value → World → Prop} {fn : Func} (hf : P.funcs[f]? = some fn) (h : VC none n [] P (bodyPostM (Fx none) 0 P fn (PostV S)) c (zipArgs 0 args.toList) w) (hb : fn.body = some c := by rfl) (hn : fn.ntmps = n := by rfl) (ha : Nat.ble args.toList.length n = true := by kernel_rfl) : CV P f args w S :=
  CV_enterM fn _ _ _ hf hb hn ha rfl h
theorem VrM {fn : Func} {S : Value → World → Prop} {t : Nat} (v : Value) {Ds : List Nat} (hm : Marks Ds w) (hS : ∀ w', Step (fun i => i ∈ Ds) w w' → S v w') (he : e = .normal ∨ e = .ret := by first | exact .inr rfl | exact .inl rfl) (hr : fn.results = #[.tmp t] := by rfl) (hv : look l t = some v := by kernel_rfl) : VQ n (Ds.map markOf) (bodyPostM (Fx none) 0 P fn (PostV S)) e l w := VQ_retM1 v Ds he hr hv hm hS
/-- `b && c`, `b || c`: two ways that meet again. -/
theorem Vand (s t j : Nat) (ks : List Nat) (b c : Bool) (ht : b = true → VL r n ds P ops Q j ((t, Bo c) :: (keep ks l).getD []) w → VL r n ds P ops Q i ((s, Bo true) :: l) w) (next : VL r n ds P ops Q j ((t, Bo (b && c)) :: (keep ks l).getD []) w)
    (hs : look l s = some (Bo b) := by kernel_rfl) (hf : (pureRun P n ops (j - i) i ((s, Bo false) :: l)).bind (keep (t :: ks)) = some ((t, Bo false) :: (keep ks l).getD []) := by kernel_rfl) (hj : Nat.ble i j = true := by kernel_rfl) : VL r n ds P ops Q i l w := by
  have hsub : ∀ b', b = b' → ∀ t v, look ((s, Bo b') :: l) t = some v → look l t = some v := by
    intro b' e t' v hv
    simp only [look] at hv
    cases q : Nat.beq s t' with
    | true => rw [q] at hv; cases hv; have := Nat.eq_of_beq_eq_true q; subst this; subst e; exact hs
    | false => rw [q] at hv; exact hv
  cases hb : b with
  | true =>
    rw [hb] at next
    exact VL_look (hsub true hb) (ht hb next)
  | false =>
    rw [hb] at next
    exact VL_look (hsub false hb) (VL_pure j (t :: ks) _ hf hj next)
theorem Vor (s t j : Nat) (ks : List Nat) (b c : Bool) (ht : b = false → VL r n ds P ops Q j ((t, Bo c) :: (keep ks l).getD []) w → VL r n ds P ops Q i ((s, Bo false) :: l) w) (next : VL r n ds P ops Q j ((t, Bo (b || c)) :: (keep ks l).getD []) w)
    (hs : look l s = some (Bo b) := by kernel_rfl) (hf : (pureRun P n ops (j - i) i ((s, Bo true) :: l)).bind (keep (t :: ks)) = some ((t, Bo true) :: (keep ks l).getD []) := by kernel_rfl) (hj : Nat.ble i j = true := by kernel_rfl) : VL r n ds P ops Q i l w := by
  have hsub : ∀ b', b = b' → ∀ t v, look ((s, Bo b') :: l) t = some v → look l t = some v := by
    intro b' e t' v hv
    simp only [look] at hv
    cases q : Nat.beq s t' with
    | true => rw [q] at hv; cases hv; have := Nat.eq_of_beq_eq_true q; subst this; subst e; exact hs
    | false => rw [q] at hv; exact hv
  cases hb : b with
  | false =>
    rw [hb] at next
    exact VL_look (hsub false hb) (ht hb next)
  | true =>
    rw [hb] at next
    exact VL_look (hsub true hb) (VL_pure j (t :: ks) _ hf hj next)
theorem Vkn (s : Nat) (b c : Bool) (hb : b = c) (next : VL r n ds P ops Q i ((s, Bo c) :: l) w) (hs : look l s = some (Bo b) := by kernel_rfl) : VL r n ds P ops Q i l w := by
  subst hb
  refine VL_look (fun t v hv => ?_) next
  simp only [look] at hv
  cases q : Nat.beq s t with
  | true => rw [q] at hv; cases hv; have := Nat.eq_of_beq_eq_true q; subst this; exact hs
  | false => rw [q] at hv; exact hv
theorem look_put {s : Nat} {v : Value} (hs : look l s = some v) : ∀ t u, look ((s, v) :: l) t = some u → look l t = some u := by
  intro t u hv
  simp only [look] at hv
  cases q : Nat.beq s t with
  | true => rw [q] at hv; cases hv; have := Nat.eq_of_beq_eq_true q; subst this; exact hs
  | false => rw [q] at hv; exact hv
/-- A slot's value in other words. -/
theorem Vq (s : Nat) (v v' : Value) (hv : v = v') (next : VL r n ds P ops Q i ((s, v') :: l) w) (hs : look l s = some v := by kernel_rfl) : VL r n ds P ops Q i l w := by
  subst hv; exact VL_look (look_put hs) next
theorem VqC (s : Nat) (v v' : Value) (hv : v = v') (next : VC r n ds P Q c ((s, v') :: l) w) (hs : look l s = some v := by kernel_rfl) : VC r n ds P Q c l w := by
  subst hv; exact fun a ha => next a ⟨ha.size, ha.defers, fun t v hv => ha.get t v (look_put hs t v hv)⟩
/-! ### Drawn regions -/
/-- What each operation waits for, reckoned. -/
def anc (ops : Array Oper) : List (List Nat) := (List.range ops.size).foldl (fun tbl k => tbl ++ [(List.range k).filter fun x => nmem x (aftOf ops k) || (aftOf ops k).any fun j => nmem x (tb tbl j)]) []
def dvs (P : Program) (n : Nat) (ops : Array Oper) (m : Nat) (l av : List (Nat × Value)) : List Value :=
  (List.range m).foldl (fun vs k => vs ++ [match look av k with | some v => v | none => (pureAt P n ops (lkv ops (anc ops) m l vs k) k).getD undef]) []
theorem Vd {id : Nat} (m : Nat) (av : List (Nat × Value)) (js : List Nat)
    (hj : ∀ w1, Step No w w1 → AncAll (fun k => Det1 r n ds P ops Q w1 (lkv ops (anc ops) m l (dvs P n ops m l av) k) k ((dvs P n ops m l av).getD k undef)) js)
    (tail : ∀ w1, Step No w w1 → VL r n ds P ops Q m (lmv ops m l (dvs P n ops m l av)) w1)
    (hm : P.follows .mixedOrders = true := by kernel_rfl) (hchk : drawChk n ops (anc ops) m = true := by kernel_rfl) (hcov : allB m (fun k => nmem k ((List.range m).filter fun k => !nmem k js) || nmem k js) = true := by kernel_rfl)
    (hpure : (((List.range m).filter fun k => !nmem k js).map fun k => pureAt P n ops (lkv ops (anc ops) m l (dvs P n ops m l av) k) k) = ((List.range m).filter fun k => !nmem k js).map fun k => some ((dvs P n ops m l av).getD k undef) := by kernel_rfl) : VC r n ds P Q (.region id ops true) l w :=
  VC_det (anc ops) m _ _ js hm hchk hcov hpure hj tail
theorem Dl {b j : Nat} {cs : Array Value} {e : TypeId} {v : Value} (ho : Own w b cs e) (h : (ldo P n ops l j cs).map (fun x => (x.1, x.2.1, x.2.2.2.2)) = some (ds0 ops j, b, v) := by kernel_rfl) (hd : dstOf ops j = some (ds0 ops j) := by kernel_rfl) : Det1 r n ds P ops Q w l j v := by
  obtain ⟨⟨d, b', o, t, v'⟩, hx, he⟩ := Option.map_eq_some_iff.1 h
  simp only [Prod.mk.injEq] at he
  obtain ⟨rfl, rfl, rfl⟩ := he
  obtain ⟨h1, h2⟩ := ldo_spec hx ho.blk
  exact Det1_load h1 hd h2
theorem Dv {j : Nat} {v' : Value} (v : Value) (h : Det1 r n ds P ops Q w l j v) (hv : v = v' := by kernel_rfl) : Det1 r n ds P ops Q w l j v' := hv ▸ h
theorem Dc {j f : Nat} {args : Array Value} {v v' : Value} (hc : ∀ (args : Array Value) (w : World), (callFunc f args).run P w = .ok (.enter f args) w) (hcall : CV P f args w fun x w' => x = v ∧ Step No w w') (h : callOp ops l j = some (ds0 ops j, f, args) := by kernel_rfl) (hd : dstOf ops j = some (ds0 ops j) := by kernel_rfl) (hdn : Nat.blt (ds0 ops j) n = true := by kernel_rfl) (hv : v = v' := by kernel_rfl) : Det1 r n ds P ops Q w l j v' := hv ▸ Det1_call h hd hdn hc hcall
section
variable {m : Nat} {tbl : List (List Nat)} {R : World → World → Prop} {ch : List Nat} {kn : List (Nat × Value)} {is : List Nat} {k : Nat}
theorem Tx {id : Nat} (m : Nat) (F : Nat → Prop) (ch ord : List Nat) (h : VT r n ds P ops Q (anc ops) m l (fun x y => Step F x y) ch ord [] w.drew)
    (hm : P.follows .mixedOrders = true := by kernel_rfl) (hchk : drawChkL n ops (anc ops) m = true := by kernel_rfl) (hord : ordChk (anc ops) m ch ord = true := by kernel_rfl) (hall : allB m (fun k => nmem k ord) = true := by kernel_rfl) : VC r n ds P Q (.region id ops true) l w :=
  VC_text (anc ops) m (fun x y => Step F x y) ch ord hm hchk hord hall (fun x => Step.refl _ x) (fun h k => Step.trans h k) Step.weak h
def pt (P : Program) (n : Nat) (ops : Array Oper) (tbl : List (List Nat)) (m : Nat) (l : List (Nat × Value)) (is : List Nat) (kn : List (Nat × Value)) : List (Nat × Value) := (ptRun P n ops tbl m l is kn).getD []
theorem Tp (c : Nat) (next : VT r n ds P ops Q tbl m l R ch (is.drop c) (pt P n ops tbl m l (is.take c) kn) w) (h : (ptRun P n ops tbl m l (is.take c) kn).isSome = true := by kernel_rfl) : VT r n ds P ops Q tbl m l R ch is kn w := by
  obtain ⟨v, hv⟩ := Option.isSome_iff_exists.1 h
  refine VT_pures c hv ?_
  unfold pt at next
  rw [hv] at next
  exact next
theorem Tl {b : Nat} {cs : Array Value} {e : TypeId} (ho : ∀ w', R w w' → Own w' b cs e) (next : VT r n ds P ops Q tbl m l R ch is ((k, ((ldo P n ops (lkn ops tbl m l kn k) k cs).map fun x => x.2.2.2.2).getD undef) :: kn) w) (h : (ldo P n ops (lkn ops tbl m l kn k) k cs).map (fun x => (x.1, x.2.1)) = some (ds0 ops k, b) := by kernel_rfl) (hd : dstOf ops k = some (ds0 ops k) := by kernel_rfl) : VT r n ds P ops Q tbl m l R ch (k :: is) kn w := by
  obtain ⟨⟨d, b', o, t, v'⟩, hx, he⟩ := Option.map_eq_some_iff.1 h
  simp only [Prod.mk.injEq] at he
  obtain ⟨rfl, rfl⟩ := he
  rw [hx] at next
  exact VT_load (ldo_op hx) hd (fun w' hw => (ldo_spec hx (ho w' hw).blk).2) next
theorem VT_look : ∀ (is : List Nat) {kn kn' : List (Nat × Value)} {w : World}, (∀ j, look kn j = look kn' j) → VT r n ds P ops Q tbl m l R ch is kn w → VT r n ds P ops Q tbl m l R ch is kn' w := by
  have hk : ∀ {kn kn' : List (Nat × Value)}, (∀ j, look kn j = look kn' j) → ∀ k, lkn ops tbl m l kn k = lkn ops tbl m l kn' k := by
    intro kn kn' h k
    unfold lkn
    congr 1
    exact filterMap_congr' fun x _ => by rw [h]
  have hc : ∀ {kn kn' : List (Nat × Value)}, (∀ j, look kn j = look kn' j) → ∀ (k : Nat) (v : Value) j, look ((k, v) :: kn) j = look ((k, v) :: kn') j := by
    intro kn kn' h k v j
    simp only [look, h]
  intro is
  induction is with
  | nil =>
    intro kn kn' w h hv w' hw
    have := hv w' hw
    have e : lmn ops m l kn = lmn ops m l kn' := by
      unfold lmn
      congr 1
      exact filterMap_congr' fun x _ => by rw [h]
    rwa [e] at this
  | cons k is ih =>
    intro kn kn' w h hv
    rcases hv with ⟨v, h1, h2⟩ | ⟨h1, h2⟩
    · exact .inl ⟨v, fun w' hw => by rw [← hk h]; exact h1 w' hw, ih (hc h k v) h2⟩
    · refine .inr ⟨h1, fun w0 hw => ?_⟩
      have := h2 w0 hw
      rw [hk h] at this
      intro a ha
      refine wpOpIn_mono ?_ (this a ha)
      rintro a' w'' ⟨l', hl', hR, hx⟩
      refine ⟨l', hl', hR, ?_⟩
      rcases hx with ⟨v, d, g1, g2, g3⟩ | ⟨g1, g2⟩
      · exact .inl ⟨v, d, g1, g2, ih (hc h k v) g3⟩
      · exact .inr ⟨g1, ih h g2⟩
theorem look_keep {a kn : List (Nat × Value)} (hs : Sub a kn) : ∀ j, look (a ++ kn) j = look kn j := by
  intro j
  induction a with
  | nil => rfl
  | cons x a ih =>
    obtain ⟨t, v⟩ := x
    obtain ⟨h1, h2⟩ := hs
    simp only [List.cons_append, look]
    cases q : Nat.beq t j with
    | true => have := Nat.eq_of_beq_eq_true q; subst this; exact h1.symm
    | false => exact ih h2
/-- What is known, in other words. -/
theorem Tq (a b : List (Nat × Value)) (h : a = b) (next : VT r n ds P ops Q tbl m l R ch is (b ++ kn) w) (hs : keep (a.map fun x => x.1) kn = some a := by kernel_rfl) : VT r n ds P ops Q tbl m l R ch is kn w := by
  subst h
  exact VT_look is (look_keep (keep_sub hs)) next
theorem Th (h : ∀ w0, Step No w w0 → VTc r n ds P ops Q tbl m l R ch k is kn w0) (hk : nmem k ch = true := by kernel_rfl) : VT r n ds P ops Q tbl m l R ch (k :: is) kn w := VT_chain hk h
theorem Tc {f : FuncId} {args : Array Value} {S : Value → World → Prop} (hc : ∀ (args : Array Value) (w : World), (callFunc f args).run P w = .ok (.enter f args) w) (hcall : CV P f args w S) (hR : ∀ v w1, S v w1 → R w w1) (next : ∀ v w1, S v w1 → VT r n ds P ops Q tbl m l R ch is ((k, v) :: kn) w1) (h : callOp ops (lkn ops tbl m l kn k) k = some (ds0 ops k, f, args) := by kernel_rfl) (hd : dstOf ops k = some (ds0 ops k) := by kernel_rfl) (hdn : Nat.blt (ds0 ops k) n = true := by kernel_rfl) : VTc r n ds P ops Q tbl m l R ch k is kn w := VTc_call h hd hdn hc hcall hR next
end
theorem BB : (∀ a b : Bool, ((a && b) = true) = (a = true ∧ b = true)) ∧ (∀ a b : Bool, ((a || b) = true) = (a = true ∨ b = true)) ∧ (∀ (p : Prop) [Decidable p], (decide p = true) = p) ∧ (∀ b : Bool, ((!b) = true) = (b = false)) ∧ (∀ (p : Prop) [Decidable p], (decide p = false) = ¬p) ∧ (∀ a b : Bool, ((a && b) = false) = (a = false ∨ b = false)) ∧ (∀ a b : Bool, ((a || b) = false) = (a = false ∧ b = false)) ∧
    (∀ {α : Type} [BEq α] [LawfulBEq α] (a b : α), ((a == b) = true) = (a = b)) ∧ (∀ {α : Type} [BEq α] [LawfulBEq α] (a b : α), ((a != b) = true) = (a ≠ b)) ∧ (∀ {α : Type} [BEq α] [LawfulBEq α] (a b : α), ((a == b) = false) = (a ≠ b)) ∧ (∀ {α : Type} [BEq α] [LawfulBEq α] (a b : α), ((a != b) = false) = (a = b)) ∧ (∀ a b : Bool, ((!a) = b) = (a = !b)) ∧ ((!true) = false) ∧ ((!false) = true) :=
  ⟨by simp, by simp, by simp, by simp, by simp, by simp, by simp, by intros; simp, by intros; simp, by intros; simp, by intros; simp, by simp, rfl, rfl⟩
end
end Go.Vc
end

section
/- What the functions of package conns do, one by one: keys, homes, tables. -/
set_option linter.unusedVariables false
set_option linter.unusedSimpArgs false
set_option maxRecDepth 100000
set_option maxHeartbeats 4000000
namespace Go.Proofs.YtcablikikkmfjaaGreat
open Go.Vc Go.RowKit
theorem TCn1aa {P : Prop} (h : P := by first | exact .inl ⟨h1, rfl, rfl⟩ | exact .inr (.inl ⟨h1, h2, rfl, rfl⟩) | exact .inr (.inr (.inl ⟨h1, h2, h3, rfl, rfl⟩)) | exact .inr (.inr (.inr ⟨h1, h2, h3, rfl, rfl⟩))) : P := h
theorem TCn1ab {P : Prop} (h : P := by intro i hi; first | exact hi | exact ⟨_, by assumption, hi⟩ | (have hi9 : i = b := hi; (first | show _ ∨ _ | show _ = _); omega)) : P := h

theorem right_any (p v c : Int) (w : World) :
  CV Tryz.prog 56 #[.agg #[I6 p, I6 v, I6 c]] w (fun x w1 => x = Bo (rightB p v c) ∧ Step No w w1) := by
 have hS : Step No w w := Step.refl _ _
 refine VCe Tryz.func56 (Vs (Vr ?_))
 refine Vx 0 34 #[I6 p, I6 v, I6 c] ?_
 intro b1 w1 hn1
 replace hS := Step.trans hS (hn1.step No)
 have ho1 := hn1.own
 refine Ve (Vn (Vs (Vr (Vl 1 ho1 (Vp 4 (Vand 6 10 8 [1] (decide (p ≥ 0)) (decide (p < 8)) (fun hg1 J1 => ?_) ?_))))))
 ·refine Vl 5 ho1 ?_
  exact Vp 8 (Vk [10, 1] J1)
 refine Vp 9 (Vand 11 15 13 [1] ((decide (p ≥ 0)) && (decide (p < 8))) (decide (v ≥ 0)) (fun hg2 J2 => ?_) ?_)
 ·refine Vl 10 ho1 ?_
  exact Vp 13 (Vk [15, 1] J2)
 refine Vp 14 (Vand 16 20 18 [1] (((decide (p ≥ 0)) && (decide (p < 8))) && (decide (v ≥ 0))) (decide (v < 4096)) (fun hg3 J3 => ?_) ?_)
 ·refine Vl 15 ho1 ?_
  exact Vp 18 (Vk [20, 1] J3)
 refine Vp 19 (Vand 21 25 23 [1] ((((decide (p ≥ 0)) && (decide (p < 8))) && (decide (v ≥ 0))) && (decide (v < 4096))) (decide (c ≥ 0)) (fun hg4 J4 => ?_) ?_)
 ·refine Vl 20 ho1 ?_
  exact Vp 23 (Vk [25, 1] J4)
 refine Vp 24 (Vand 26 30 28 [] (((((decide (p ≥ 0)) && (decide (p < 8))) && (decide (v ≥ 0))) && (decide (v < 4096))) && (decide (c ≥ 0))) (decide (c < 65536)) (fun hg5 J5 => ?_) ?_)
 ·refine Vl 25 ho1 ?_
  exact Vp 28 (Vk [30] J5)
 refine Ve (Vn (VC_ret (Vr1 (Bo ((((((decide (p ≥ 0)) && (decide (p < 8))) && (decide (v ≥ 0))) && (decide (v < 4096))) && (decide (c ≥ 0))) && (decide (c < 65536)))) ?_)))
 exact ⟨congrArg Value.bool (by unfold rightB; rw [Bool.eq_iff_iff]; simp [and_assoc]), hS⟩

theorem home_any (p v c : Int) (w : World) :
  CV Tryz.prog 190 #[.agg #[I6 p, I6 v, I6 c]] w (fun x w1 => x = I6 ((homeN p v c : Nat) : Int) ∧ Step No w w1) := by
 have hS : Step No w w := Step.refl _ _
 refine VCe Tryz.func190 (Vs (Vr ?_))
 refine Vx 0 34 #[I6 p, I6 v, I6 c] ?_
 intro b1 w1 hn1
 replace hS := Step.trans hS (hn1.step No)
 have ho1 := hn1.own
 refine Ve (Vn (Vs (Vr (Vl 1 ho1 (Vl 4 ho1 (Vl 9 ho1 (Ve (Vn (Vrp (VC_ret (Vr1 (I6 (IntKind.wrap .i64 ((bXor .u32 (bXor .u32 (IntKind.wrap .u32 ((IntKind.wrap .u32 (IntKind.wrap .i64 ((IntKind.wrap .i64 (p * 4096)) + v))) * 65536)) (IntKind.wrap .u32 ((IntKind.wrap .u32 c) * 2654435761))) ((bXor .u32 (IntKind.wrap .u32 ((IntKind.wrap .u32 (IntKind.wrap .i64 ((IntKind.wrap .i64 (p * 4096)) + v))) * 65536)) (IntKind.wrap .u32 ((IntKind.wrap .u32 c) * 2654435761))).fdiv (2 ^ 16))).tmod 128))) ?_)))))))))))
 exact ⟨congrArg _ (homeN_eq p v c), hS⟩

theorem new_any (m : Int) (w : World) :
  CV Tryz.prog 53 #[I6 m] w (fun x w1 => ∃ b, x = Pt b 0 ∧ ¬ b < w.heap.size ∧ Own w1 b (encT noSlots 0 (imax 0 (imin m 64))) 244 ∧ Step No w w1) := by
 have hS : Step No w w := Step.refl _ _
 refine VCe Tryz.func53 (Vrp (Vs (Vr (Vp 4 ?_))))
 refine Vx 4 244 (encT noSlots 0 (imax 0 (imin m 64))) ?_
 intro b1 w1 hn1
 replace hS := Step.trans hS (hn1.step No)
 have ho1 := hn1.own
 have hzhn1 := hn1.size
 have hqhn1 := hn1.eqb
 refine Ve (Vn (VC_ret (Vr1 (Pt b1 0) ?_)))
 exact ⟨_, rfl, by omega, ho1, hS⟩

theorem len_any (b : Nat) (s : Nat → Slot) (len room : Int) (w : World) (ht : Own w b (encT s len room) 244) :
  CV Tryz.prog 187 #[Pt b 0] w (fun x w1 => x = I6 len ∧ Step No w w1) := by
 have hS : Step No w w := Step.refl _ _
 refine VCe Tryz.func187 (Vrp (Vs (Vrp (Vf (VC_skip (Vn (Vs (Vr (Vla 3 (t := 3) (a := ⟨b, 640, none⟩) (v := I6 len) (Loads.own1 ht (by kernel_rfl) (encT_len s len room)) (Ve (Vn (VC_ret (Vr1 (I6 len) ?_)))))))))))))
 exact ⟨rfl, hS⟩

theorem find_any (b : Nat) (s : Nat → Slot) (len room : Int) (p v c : Int) (w : World) (ht : Own w b (encT s len room) 244) (e : Nat) (he : e < 128) (hu : (s e).used = false) :
  CV Tryz.prog 117 #[Pt b 0, .agg #[I6 p, I6 v, I6 c]] w (fun x w1 => x = I6 ((findN s p v c : Nat) : Int) ∧ Step No w w1) := by
 have hS : Step No w w := Step.refl _ _
 refine VCe Tryz.func117 (Vs (Vr ?_))
 refine Vx 0 34 #[I6 p, I6 v, I6 c] ?_
 intro b1 w1 hn1
 replace hS := Step.trans hS (hn1.step No)
 replace ht := ht.no (hn1.step No)
 have ho1 := hn1.own
 refine Ve (Vn (VC_scope (Vs (Vr (Vl 0 ho1 ?_)))))
 refine Vc 1 (args := #[.agg #[I6 p, I6 v, I6 c]]) Tryz.call190 (home_any _ _ _ _) ?_
 rintro _ w2 ⟨rfl, hc1⟩
 replace hS := Step.trans hS hc1
 replace ht := ht.no hc1
 replace ho1 := ho1.no hc1
 refine Ve (Vn (Vs (VC_label (Vn (Vs (VC_block ?_))))))
 obtain ⟨d0, hd0, hg0⟩ := find_start s p v c e he hu
 refine VC_loop (σ := Nat × Nat) (fun σs => [(0, Pt b 0), (3, Pt b1 0), (5, I6 ((σs.1 : Nat) : Int))]) (fun σs wr => σs.1 < 128 ∧ (σs.1 + σs.2) % 128 = e ∧ go s p v c (σs.2 + 1) σs.1 = findN s p v c ∧ Step No w wr ∧ Own wr b1 #[I6 p, I6 v, I6 c] 34 ∧ Own wr b (encT s len room) 244) (fun σs wr => σs.2) ⟨homeN p v c, d0⟩ Su ?_ ?_
 ·exact ⟨homeN_lt p v c, hd0, hg0, hS, ho1, ht⟩
 rintro ⟨k, d⟩ wr ⟨hk, hd, hgo, hS, ho1, ht⟩
 try dsimp only at hk hd hgo hS ho1 ht ⊢
 refine Vs (Vs (Vr (Vp 4 (VL_index (d := 12) (b := b) (o := 0) (len := 128) (sz := 5) (m := ((k : Nat) : Int)) (by kernel_rfl) (by kernel_rfl) k (by rfl) (by omega) (k * 5) (by omega) (Vla 6 (t := 4) (a := ⟨b, k * 5 + 4, none⟩) (v := Bo ((s k).used)) (Loads.own1 ht (by kernel_rfl) (encT_used s len room k hk)) (Ve (Vn (Vif ((s k).used) (fun h1 => ?_) (fun h1 => ?_)))))))))
 ·try simp only [BB] at h1
  refine VC_skip (Vn (VC_block (Vs (Vs (Vd 8 [(4, Pt b (k * 5)), (6, .agg #[I6 ((s k).p), I6 ((s k).v), I6 ((s k).c)]), (7, .agg #[I6 p, I6 v, I6 c])] [4, 6, 7] ?_ ?_)))))
  ·intro w3 hs1
   replace ht := ht.no hs1
   replace ho1 := ho1.no hs1
   exact ⟨Dv (Pt b (k * 5)) (Det1_index (d := 19) (b := b) (o := 0) (len := 128) (sz := 5) (m := ((k : Nat) : Int)) (by kernel_rfl) (by kernel_rfl) k (by rfl) (by omega) (k * 5) (by omega)), Dv (.agg #[I6 ((s k).p), I6 ((s k).v), I6 ((s k).c)]) (Det1_load (d := 21) (t := 34) (a := ⟨b, k * 5, none⟩) (by kernel_rfl) (by kernel_rfl) (Loads.own ht (n := 3) (by kernel_rfl) (by rw [encT_size]; omega) (encT_key s len room k hk))), Dl ho1, trivial⟩
  intro w3 hs1
  replace hS := Step.trans hS hs1
  replace ht := ht.no hs1
  replace ho1 := ho1.no hs1
  refine VL_agEq (d := 23) (dd := 9) (ls := ([.int .i64] ++ [.int .i64] ++ [.int .i64] ++ [])) (pos := true) (t := 34) (xs := #[I6 ((s k).p), I6 ((s k).v), I6 ((s k).c)]) (ys := #[I6 p, I6 v, I6 c]) (by kernel_rfl) (by kernel_rfl) (by kernel_rfl) (by kernel_rfl) (by first | exact ⟨⟨_, rfl⟩, ⟨_, rfl⟩, ⟨_, rfl⟩, trivial⟩ | trivial) (by first | exact ⟨⟨_, rfl⟩, ⟨_, rfl⟩, ⟨_, rfl⟩, trivial⟩ | trivial) (hitB (s k) p v c) (by rw [Bool.eq_iff_iff]; simp [cellsEq, leafEq, hitB]) (Ve (Vn (Vif (hitB (s k) p v c) (fun h2 => ?_) (fun h2 => ?_))))
  ·try simp only [BB] at h2
   refine VC_exit (VQ_then_exit (VQ_block_miss (by kernel_rfl) (VQ_then_exit (VQ_block_hit (Vn (Vrp (VC_ret (VQ_scope_ret (Vr1 (I6 ((k : Nat) : Int)) ?_)))))))))
   exact ⟨congrArg (fun n : Nat => Value.int .i64 (n : Int)) (hgo.symm.trans (go_stop s p v c d k (by first | exact Or.inl h1 | exact Or.inr h2))).symm, hS⟩
  ·try simp only [BB] at h2
   refine VC_skip (Vn (Vr (Vp 3 (Vq 26 (I6 ((IntKind.wrap .i64 (((k : Nat) : Int) + 1)).tmod 128)) (I6 (((k + 1) % 128 : Nat) : Int)) (by rw [wrap_i64 (_ + 1) (by omega) (by omega), Int.tmod_eq_emod_of_nonneg (by omega)]; rfl) (Ve (VQ_block_normal (VQ_again ⟨(k + 1) % 128, d - 1⟩ Su ?_ ?_)))))))
   ·obtain ⟨a1, a2, a3, a4⟩ := find_again s p v c k d e _ hk hd hu hgo h1 h2
    exact ⟨a1, a2, a3, hS, ho1, ht⟩
   ·exact (find_again s p v c k d e _ hk hd hu hgo h1 h2).2.2.2
 ·try simp only [BB] at h1
  refine VC_exit (VQ_then_exit (VQ_then_exit (VQ_block_hit (Vn (Vrp (VC_ret (VQ_scope_ret (Vr1 (I6 ((k : Nat) : Int)) ?_))))))))
  exact ⟨congrArg (fun n : Nat => Value.int .i64 (n : Int)) (hgo.symm.trans (go_stop s p v c d k (by first | exact Or.inl h1 | exact Or.inr h2))).symm, hS⟩

theorem get_any (b : Nat) (s : Nat → Slot) (len room : Int) (p v c : Int) (w : World) (ht : Own w b (encT s len room) 244) (e : Nat) (he : e < 128) (hu : (s e).used = false) :
  CV Tryz.prog 111 #[.pointer (some ⟨b, 0, none⟩), .agg #[.int .i64 p, .int .i64 v, .int .i64 c]] w (fun x w1 => x = .tuple #[.int .i64 (s (findN s p v c)).n, .bool (s (findN s p v c)).used] ∧ Step No w w1) := by
 have hS : Step No w w := Step.refl _ _
 have hk := findN_lt s p v c
 refine CV_enter Tryz.f111 _ 21 [(0, .pointer (some ⟨b, 0, none⟩)), (1, .agg #[.int .i64 p, .int .i64 v, .int .i64 c])] Tryz.func111 rfl rfl (by kernel_rfl) rfl ?_
 refine VC_seq ?_
 refine VC_region ?_
 refine VL_box (d := 3) (t := 34) (c := #[.int .i64 p, .int .i64 v, .int .i64 c]) (by kernel_rfl) (by kernel_rfl) ?_
 intro b1 w1 hn1
 replace hS := Step.trans hS (hn1.step No)
 replace ht := ht.no (hn1.step No)
 have ho1 := hn1.own
 have hzhn1 := hn1.size
 have hqhn1 := hn1.eqb
 refine VL_pure 3 [0, 3] [(0, .pointer (some ⟨b, 0, none⟩)), (3, .pointer (some ⟨b1, 0, none⟩))] (by kernel_rfl) rfl ?_
 refine VL_end (by kernel_rfl) ?_
 refine VQ_next ?_
 refine VC_seq ?_
 refine VC_seq ?_
 refine VC_region ?_
 refine VL_pure 2 [0, 3, 8] [(0, .pointer (some ⟨b, 0, none⟩)), (3, .pointer (some ⟨b1, 0, none⟩)), (8, .bool false)] (by kernel_rfl) rfl ?_
 refine VL_end (by kernel_rfl) ?_
 refine VQ_next ?_
 refine VC_false (by kernel_rfl) ?_
 refine VC_skip ?_
 refine VQ_next ?_
 refine VC_seq ?_
 refine VC_mix [[], [], [], [1, 2], [0], [0, 4], [0, 1, 2, 3, 4, 5], [0, 1, 2, 3, 4, 5, 6], [], [0, 1, 2, 3, 4, 5, 6, 7, 8]] 9 [.pointer (some ⟨b, 0, none⟩), .pointer (some ⟨b, 0, none⟩), .agg #[.int .i64 p, .int .i64 v, .int .i64 c], .int .i64 ((findN s p v c : Nat) : Int), .pointer (some ⟨b, 0, none⟩), .pointer (some ⟨b, 0, none⟩), .pointer (some ⟨b, (findN s p v c) * 5, none⟩), .agg #[.int .i64 ((s (findN s p v c)).p), .int .i64 ((s (findN s p v c)).v), .int .i64 ((s (findN s p v c)).c), .int .i64 ((s (findN s p v c)).n), .bool ((s (findN s p v c)).used)], undef] [0, 1, 4, 5] [2, 3, 6, 7] [(8, 241, #[.int .i64 0, .int .i64 0, .int .i64 0, .int .i64 0, .bool false])] (by kernel_rfl) (by kernel_rfl) (by kernel_rfl) (by kernel_rfl) (by kernel_rfl) (by kernel_rfl) (by kernel_rfl) ?_ (by kernel_rfl) ?_
 ·intro w2 hs1
  replace ht := ht.no hs1
  replace ho1 := ho1.no hs1
  exact ⟨Det1_load (d := 11) (t := 34) (a := ⟨b1, 0, none⟩) (by kernel_rfl) (by kernel_rfl) (Loads.ownL ho1 (n := 3) (by kernel_rfl) (by kernel_rfl) (by kernel_rfl)), Det1_call (d := 12) (f := 117) (args := #[.pointer (some ⟨b, 0, none⟩), .agg #[.int .i64 p, .int .i64 v, .int .i64 c]]) (by kernel_rfl) (by kernel_rfl) (by kernel_rfl) Tryz.call117 (by exact find_any b s len room p v c w2 ht e he hu), Det1_index (d := 15) (b := b) (o := 0) (len := 128) (sz := 5) (m := ((findN s p v c : Nat) : Int)) (by kernel_rfl) (by kernel_rfl) (findN s p v c) (by rfl) (by omega) ((findN s p v c) * 5) (by omega), Det1_load (d := 16) (t := 241) (a := ⟨b, (findN s p v c) * 5, none⟩) (by kernel_rfl) (by kernel_rfl) (Loads.own ht (n := 5) (by kernel_rfl) (by rw [encT_size]; omega) (encT_all s len room (findN s p v c) hk)), trivial⟩
 intro w2 bs1 hs1 hnw1
 replace hS := Step.trans hS hs1
 refine VL_keep [16, 6] [(16, .agg #[.int .i64 ((s (findN s p v c)).p), .int .i64 ((s (findN s p v c)).v), .int .i64 ((s (findN s p v c)).c), .int .i64 ((s (findN s p v c)).n), .bool ((s (findN s p v c)).used)]), (6, .pointer (some ⟨(bs1 8), 0, none⟩))] (by kernel_rfl) ?_
 obtain ⟨⟨hleb2, hob2⟩, -⟩ := hnw1
 generalize bs1 8 = b2 at hleb2 hob2 ⊢
 refine VL_keep [16, 6] [(16, .agg #[.int .i64 ((s (findN s p v c)).p), .int .i64 ((s (findN s p v c)).v), .int .i64 ((s (findN s p v c)).c), .int .i64 ((s (findN s p v c)).n), .bool ((s (findN s p v c)).used)]), (6, .pointer (some ⟨b2, 0, none⟩))] (by kernel_rfl) ?_
 refine VL_store (b := b2) (o := 0) (vs := [.int .i64 ((s (findN s p v c)).p), .int .i64 ((s (findN s p v c)).v), .int .i64 ((s (findN s p v c)).c), .int .i64 ((s (findN s p v c)).n), .bool ((s (findN s p v c)).used)]) (by kernel_rfl) (by kernel_rfl) hob2 (Nat.le_of_ble_eq_true (by kernel_rfl)) ?_
 intro w3 hw1
 replace hS := Step.transNew hS hw1.step (fun _ _ _ => by omega)
 have ho2 : Own w3 b2 #[.int .i64 ((s (findN s p v c)).p), .int .i64 ((s (findN s p v c)).v), .int .i64 ((s (findN s p v c)).c), .int .i64 ((s (findN s p v c)).n), .bool ((s (findN s p v c)).used)] 241 := Own.cast hw1.own (by kernel_rfl)
 refine VL_end (by kernel_rfl) ?_
 refine VQ_next ?_
 refine VC_seq ?_
 refine VC_det [[], [0], [], [2], [0, 1], [0, 1, 2, 3, 4]] 5 [.pointer (some ⟨b2, 3, none⟩), .int .i64 ((s (findN s p v c)).n), .pointer (some ⟨b2, 4, none⟩), .bool ((s (findN s p v c)).used), .int .i64 ((s (findN s p v c)).n)] [0, 2, 4] [1, 3] (by kernel_rfl) (by kernel_rfl) (by kernel_rfl) (by kernel_rfl) ?_ ?_
 ·intro w4 hs2
  replace ho2 := ho2.no hs2
  exact ⟨Det1_load (d := 18) (t := 3) (a := ⟨b2, 3, none⟩) (by kernel_rfl) (by kernel_rfl) (Loads.own1 ho2 (by kernel_rfl) (by rfl)), Det1_load (d := 20) (t := 4) (a := ⟨b2, 4, none⟩) (by kernel_rfl) (by kernel_rfl) (Loads.own1 ho2 (by kernel_rfl) (by rfl)), trivial⟩
 intro w4 hs2
 replace hS := Step.trans hS hs2
 refine VL_keep [20, 4] [(20, .bool ((s (findN s p v c)).used)), (4, .int .i64 ((s (findN s p v c)).n))] (by kernel_rfl) ?_
 refine VL_pure 6 [4, 5] [(4, .int .i64 ((s (findN s p v c)).n)), (5, .bool ((s (findN s p v c)).used))] (by kernel_rfl) rfl ?_
 refine VL_end (by kernel_rfl) ?_
 refine VQ_next ?_
 refine VC_ret ?_
 refine VQ_ret2 (.int .i64 ((s (findN s p v c)).n)) (.bool ((s (findN s p v c)).used)) (.inr rfl) rfl rfl rfl ?_
 exact ⟨rfl, hS⟩

theorem put_any (b : Nat) (s : Nat → Slot) (len room : Int) (p v c n : Int) (w : World) (ht : Own w b (encT s len room) 244) (e : Nat) (he : e < 128) (hu : (s e).used = false) (hl0 : 0 ≤ len) (hl : len < 1000) :
  CV Tryz.prog 61 #[Pt b 0, .agg #[I6 p, I6 v, I6 c], I6 n] w (fun x w1 => x = I6 (putC s len room p v c) ∧ Own w1 b (encT (putS s len room p v c n) (cputL s len room p v c) room) 244 ∧ Step (Just b) w w1) := by
 have hS : Step (Just b) w w := Step.refl _ _
 have hk := findN_lt s p v c
 refine VCe Tryz.func61 (Vs (Vr ?_))
 refine Vx 0 34 #[I6 p, I6 v, I6 c] ?_
 intro b1 w1 hn1
 replace hS := Step.trans hS (Step.weak (hn1.step No))
 replace ht := ht.no (hn1.step No)
 have ho1 := hn1.own
 refine Ve (Vn (Vs (Vrp (Vf (VC_skip (Vn (Vs (Vs (Vr (Vl 0 ho1 ?_))))))))))
 refine Vc 1 (args := #[.agg #[I6 p, I6 v, I6 c]]) Tryz.call56 (right_any _ _ _ _) ?_
 rintro _ w2 ⟨rfl, hc1⟩
 replace hS := Step.trans hS (Step.weak hc1)
 replace ht := ht.no hc1
 replace ho1 := ho1.no hc1
 refine Ve (Vn (Vif (!(rightB p v c)) (fun h1 => ?_) (fun h1 => ?_)))
 ·try simp only [BB] at h1
  refine Vrp (VC_ret (VQ_then_ret (Vr1 (I6 1) ?_)))
  exact put_fin s len room p v c n (ht := ht) hS TCn1aa
 ·try simp only [BB] at h1
  refine VC_skip (Vn (Vs (Vr (Vl 1 ho1 ?_))))
  refine Vc 2 (args := #[Pt b 0, .agg #[I6 p, I6 v, I6 c]]) Tryz.call117 (find_any b s len room p v c w2 ht e he hu) ?_
  rintro _ w3 ⟨rfl, hc2⟩
  replace hS := Step.trans hS (Step.weak hc2)
  replace ht := ht.no hc2
  replace ho1 := ho1.no hc2
  refine Ve (Vn (Vs (VC_block (Vs (Vr (Vp 4 (VL_index (d := 21) (b := b) (o := 0) (len := 128) (sz := 5) (m := ((findN s p v c : Nat) : Int)) (by kernel_rfl) (by kernel_rfl) (findN s p v c) (by rfl) (by omega) ((findN s p v c) * 5) (by omega) (Vla 6 (t := 4) (a := ⟨b, (findN s p v c) * 5 + 4, none⟩) (v := Bo ((s (findN s p v c)).used)) (Loads.own1 ht (by kernel_rfl) (encT_used s len room (findN s p v c) hk)) (Ve (Vn (Vif ((s (findN s p v c)).used) (fun h2 => ?_) (fun h2 => ?_))))))))))))
  ·try simp only [BB] at h2
   refine Vrp (VC_ret (VQ_block_ret (VQ_then_ret (Vr1 (I6 7) ?_))))
   exact put_fin s len room p v c n (ht := ht) hS TCn1aa
  ·try simp only [BB] at h2
   refine Vs (Vd 8 [(3, I6 len), (7, I6 room)] [3, 7] ?_ ?_)
   ·intro w4 hs1
    replace ht := ht.no hs1
    exact ⟨Dv (I6 len) (Det1_load (d := 28) (t := 3) (a := ⟨b, 640, none⟩) (by kernel_rfl) (by kernel_rfl) (Loads.own1 ht (by kernel_rfl) (encT_len s len room))), Dv (I6 room) (Det1_load (d := 32) (t := 3) (a := ⟨b, 641, none⟩) (by kernel_rfl) (by kernel_rfl) (Loads.own1 ht (by kernel_rfl) (encT_room s len room))), trivial⟩
   intro w4 hs1
   replace hS := Step.trans hS (Step.weak hs1)
   replace ht := ht.no hs1
   replace ho1 := ho1.no hs1
   refine Ve (Vn (Vid (len ≥ room) (fun h3 => ?_) (fun h3 => ?_)))
   ·refine Vrp (VC_ret (VQ_block_ret (VQ_then_ret (Vr1 (I6 9) ?_))))
    exact put_fin s len room p v c n (ht := ht) hS TCn1aa
   ·refine VC_skip (VQ_block_normal (Vn (Vs (Vd 7 [(2, .agg #[I6 p, I6 v, I6 c])] [2] ?_ ?_))))
    ·intro w5 hs2
     replace ho1 := ho1.no hs2
     exact ⟨Dl ho1, trivial⟩
    intro w5 hs2
    replace hS := Step.trans hS (Step.weak hs2)
    replace ht := ht.no hs2
    refine VL_index (d := 41) (b := b) (o := 0) (len := 128) (sz := 5) (m := ((findN s p v c : Nat) : Int)) (by kernel_rfl) (by kernel_rfl) (findN s p v c) (by rfl) (by omega) ((findN s p v c) * 5) (by omega) (VL_store (b := b) (o := (findN s p v c) * 5) (vs := [I6 p, I6 v, I6 c, I6 n, Bo true]) (by kernel_rfl) (by kernel_rfl) ht (by rw [encT_size]; show _ + 5 ≤ _; omega) ?_)
    intro w6 hw1
    replace hS := Step.trans hS (Step.mono hw1.step TCn1ab)
    have ho2 : Own w6 b (encT (setS s (findN s p v c) ⟨p, v, c, n, true⟩) len room) 244 := Own.cast hw1.own (setRow_slot s len room (findN s p v c) hk ⟨p, v, c, n, true⟩)
    refine Ve (Vn (Vs (Vr (Vla 3 (t := 3) (a := ⟨b, 640, none⟩) (v := I6 len) (Loads.own1 ho2 (by kernel_rfl) (encT_len (setS s (findN s p v c) ⟨p, v, c, n, true⟩) len room)) (Vp 5 (Vq 46 (I6 (IntKind.wrap .i64 (len + 1))) (I6 (len + 1)) (by rw [wrap_i64 (len + 1) (by omega) (by omega)]) (Vp 7 (VL_store (b := b) (o := 640) (vs := [I6 (len + 1)]) (by kernel_rfl) (by kernel_rfl) ho2 (by rw [encT_size]; exact Nat.le_of_ble_eq_true (by kernel_rfl)) ?_))))))))
    intro w7 hw2
    replace hS := Step.trans hS (Step.mono hw2.step TCn1ab)
    have ho3 : Own w7 b (encT (setS s (findN s p v c) ⟨p, v, c, n, true⟩) (len + 1) room) 244 := Own.cast hw2.own (setRow_len _ _ _ _)
    refine Ve (Vn (Vrp (VC_ret (Vr1 (I6 0) ?_))))
    exact put_fin s len room p v c n (ht := ho3) hS TCn1aa

end Go.Proofs.YtcablikikkmfjaaGreat
end

section
/- Package conns in plain Lean: the table is a map. -/
set_option linter.unusedVariables false
set_option linter.unusedSimpArgs false
namespace Go.Proofs.YtcablikikkmfjaaGreat
open Go.Vc

/-! ### Lists -/
theorem length_le_of_nodup {α : Type} [DecidableEq α] {l m : List α} (hl : l.Nodup) (h : ∀ x ∈ l, x ∈ m) : l.length ≤ m.length := by
  induction l generalizing m with
  | nil => simp
  | cons x r ih =>
    obtain ⟨hx, hr⟩ := List.nodup_cons.1 hl
    have hxm : x ∈ m := h x (List.mem_cons_self ..)
    have := ih (m := m.erase x) hr fun y hy => (List.mem_erase_of_ne (fun e => hx (by rw [← e]; exact hy))).2 (h y (List.mem_cons_of_mem _ hy))
    rw [List.length_erase_of_mem hxm] at this
    have hpos : 0 < m.length := List.length_pos_of_mem hxm
    simp only [List.length_cons]
    omega

def usedL (s : Nat → Slot) : List Nat := (List.range 128).filter fun i => (s i).used
def cntU (s : Nat → Slot) : Nat := (usedL s).length
theorem mem_usedL {s : Nat → Slot} {i : Nat} : i ∈ usedL s ↔ i < 128 ∧ (s i).used = true := by simp [usedL]
theorem usedL_nodup (s : Nat → Slot) : (usedL s).Nodup := List.Pairwise.filter _ List.nodup_range
theorem exists_unused {s : Nat → Slot} (h : cntU s < 128) : ∃ e, e < 128 ∧ (s e).used = false := by
  apply Classical.byContradiction
  intro hno
  have : (List.range 128).length ≤ (usedL s).length := length_le_of_nodup List.nodup_range fun i hi => mem_usedL.2 ⟨List.mem_range.1 hi, by
    cases hb : (s i).used with
    | true => rfl
    | false => exact absurd ⟨i, List.mem_range.1 hi, hb⟩ hno⟩
  rw [List.length_range] at this
  unfold cntU at h
  omega

theorem cntU_set {s : Nat → Slot} {i : Nat} (hi : i < 128) (hu : (s i).used = false) {x : Slot} (hx : x.used = true) : cntU (setS s i x) = cntU s + 1 := by
  have h1 : (usedL (setS s i x)).length ≤ (i :: usedL s).length := length_le_of_nodup (usedL_nodup _) fun j hj => by
    obtain ⟨h1, h2⟩ := mem_usedL.1 hj
    by_cases e : j = i
    · rw [e]; exact List.mem_cons_self ..
    · simp only [setS, e, if_false] at h2
      exact List.mem_cons_of_mem _ (mem_usedL.2 ⟨h1, h2⟩)
  have h2 : (i :: usedL s).length ≤ (usedL (setS s i x)).length := length_le_of_nodup (List.nodup_cons.2 ⟨(fun h => by
    have := (mem_usedL.1 h).2; rw [hu] at this; cases this), usedL_nodup _⟩) fun j hj => by
    rcases List.mem_cons.1 hj with rfl | hj
    · exact mem_usedL.2 ⟨hi, by simp [setS, hx]⟩
    · obtain ⟨h1, h2⟩ := mem_usedL.1 hj
      refine mem_usedL.2 ⟨h1, ?_⟩
      by_cases e : j = i
      · rw [e] at h2; rw [hu] at h2; cases h2
      · simp [setS, e, h2]
  simp only [List.length_cons] at h1 h2
  unfold cntU
  omega

/-! ### What a search comes to -/
theorem hit_eq {x : Slot} {p v c : Int} (h : hitB x p v c = true) : x.p = p ∧ x.v = v ∧ x.c = c := of_decide_eq_true h
theorem go_ends (s : Nat → Slot) (p v c : Int) (d : Nat) : ∀ i, i < 128 → (s ((i + d) % 128)).used = false → (s (go s p v c (d + 1) i)).used = false ∨ hitB (s (go s p v c (d + 1) i)) p v c = true := by
  induction d with
  | zero =>
    intro i hi hu
    rw [Nat.add_zero, Nat.mod_eq_of_lt hi] at hu
    left
    rw [go_stop _ _ _ _ _ _ (.inl hu)]; exact hu
  | succ d ih =>
    intro i hi hu
    by_cases h : (s i).used = true ∧ hitB (s i) p v c = false
    · rw [go_next _ _ _ _ _ _ h.1 h.2]
      exact ih _ (Nat.mod_lt _ (by decide)) (by rw [show ((i + 1) % 128 + d) % 128 = (i + (d + 1)) % 128 by omega]; exact hu)
    · have h' : (s i).used = false ∨ hitB (s i) p v c = true := by
        cases h1 : (s i).used with
        | false => exact .inl rfl
        | true =>
          cases h2 : hitB (s i) p v c with
          | true => exact .inr rfl
          | false => exact absurd ⟨h1, h2⟩ h
      rw [go_stop _ _ _ _ _ _ h']; exact h'
theorem find_ends {s : Nat → Slot} (p v c : Int) {e : Nat} (he : e < 128) (hu : (s e).used = false) : (s (findN s p v c)).used = false ∨ hitB (s (findN s p v c)) p v c = true := by
  obtain ⟨d, h1, h2⟩ := find_start s p v c e he hu
  rw [← h2]
  exact go_ends s p v c d _ (homeN_lt p v c) (by rw [h1]; exact hu)

/-- A slot that a search doesn't end at, and that is free, plays no part. -/
theorem go_set_other (s : Nat → Slot) (p v c : Int) (i0 : Nat) (x : Slot) (hu0 : (s i0).used = false) (f : Nat) : ∀ i, go s p v c f i ≠ i0 → go (setS s i0 x) p v c f i = go s p v c f i := by
  induction f with
  | zero => intro i _; rfl
  | succ f ih =>
    intro i hne
    by_cases e : i = i0
    · subst e
      exact absurd (go_stop s p v c f i (.inl hu0)) hne
    · by_cases h : (s i).used = true ∧ hitB (s i) p v c = false
      · rw [go_next _ _ _ _ _ _ h.1 h.2] at hne ⊢
        rw [go_next _ _ _ _ _ _ (by simp [setS, e, h.1]) (by simp [setS, e, h.2])]
        exact ih _ hne
      · have h' : (s i).used = false ∨ hitB (s i) p v c = true := by
          cases h1 : (s i).used with
          | false => exact .inl rfl
          | true =>
            cases h2 : hitB (s i) p v c with
            | true => exact .inr rfl
            | false => exact absurd ⟨h1, h2⟩ h
        rw [go_stop _ _ _ _ _ _ h', go_stop _ _ _ _ _ _ (by simpa [setS, e] using h')]
/-- One that a search ends at: with the key itself there it ends there still. -/
theorem go_set_same (s : Nat → Slot) (p v c n : Int) (i0 : Nat) (hu0 : (s i0).used = false) (f : Nat) : ∀ i, go s p v c f i = i0 → go (setS s i0 ⟨p, v, c, n, true⟩) p v c f i = i0 := by
  induction f with
  | zero => intro i h; exact h
  | succ f ih =>
    intro i hq
    by_cases e : i = i0
    · subst e
      exact go_stop _ _ _ _ _ _ (.inr (by simp [setS, hitB]))
    · by_cases h : (s i).used = true ∧ hitB (s i) p v c = false
      · rw [go_next _ _ _ _ _ _ h.1 h.2] at hq
        rw [go_next _ _ _ _ _ _ (by simp [setS, e, h.1]) (by simp [setS, e, h.2])]
        exact ih _ hq
      · have h' : (s i).used = false ∨ hitB (s i) p v c = true := by
          cases h1 : (s i).used with
          | false => exact .inl rfl
          | true =>
            cases h2 : hitB (s i) p v c with
            | true => exact .inr rfl
            | false => exact absurd ⟨h1, h2⟩ h
        rw [go_stop _ _ _ _ _ _ h'] at hq
        exact absurd hq e

/-! ### A table that is in order -/
structure CInv (s : Nat → Slot) (len room : Int) : Prop where
  own : ∀ i, i < 128 → (s i).used = true → findN s (s i).p (s i).v (s i).c = i
  zero : ∀ i, i < 128 → (s i).used = false → s i = noSlot
  right : ∀ i, i < 128 → (s i).used = true → rightB (s i).p (s i).v (s i).c = true
  cnt : len = (cntU s : Nat)
  fits : len ≤ room
  cap : room ≤ 64
theorem CInv.lt {s : Nat → Slot} {len room : Int} (h : CInv s len room) : cntU s < 128 := by have := h.cnt; have := h.fits; have := h.cap; omega
theorem CInv.unused {s : Nat → Slot} {len room : Int} (h : CInv s len room) : ∃ e, e < 128 ∧ (s e).used = false := exists_unused h.lt
theorem CInv.new (m : Int) : CInv noSlots 0 (imax 0 (imin m 64)) := by
  have h0 : usedL noSlots = [] := by simp [usedL, noSlots, noSlot]
  refine ⟨fun i _ h => (by cases h), fun i _ _ => rfl, fun i _ h => (by cases h), by unfold cntU; rw [h0]; rfl, by unfold imax imin; split <;> split <;> omega, by unfold imax imin; split <;> split <;> omega⟩

/-- The number that a key has. -/
def val (s : Nat → Slot) (p v c : Int) : Option Int := if there s p v c = true then some (s (findN s p v c)).n else none
theorem there_key {s : Nat → Slot} {len room : Int} (h : CInv s len room) {p v c : Int} (ht : there s p v c = true) : (s (findN s p v c)).p = p ∧ (s (findN s p v c)).v = v ∧ (s (findN s p v c)).c = c := by
  obtain ⟨e, he, hu⟩ := h.unused
  have := find_ends p v c he hu
  unfold there at ht
  rw [ht] at this
  rcases this with h1 | h1
  · cases h1
  · exact hit_eq h1
theorem CInv.put {s : Nat → Slot} {len room : Int} (h : CInv s len room) (p v c n : Int) : CInv (putS s len room p v c n) (cputL s len room p v c) room := by
  unfold putS cputL
  by_cases h0 : putC s len room p v c = 0
  · rw [if_pos h0, if_pos h0]
    have hr : rightB p v c = true ∧ (s (findN s p v c)).used = false ∧ len < room := by
      unfold putC at h0
      split at h0
      · rename_i hr
        split at h0
        · omega
        · rename_i hu
          split at h0
          · omega
          · exact ⟨hr, by simpa using hu, by omega⟩
      · omega
    obtain ⟨hr, hu, hlt⟩ := hr
    have hi := findN_lt s p v c
    refine ⟨fun i hi' hiu => ?_, fun i hi' hiu => ?_, fun i hi' hiu => ?_, ?_, by omega, h.cap⟩
    · by_cases e : i = findN s p v c
      · subst e
        have e0 : setS s (findN s p v c) ⟨p, v, c, n, true⟩ (findN s p v c) = ⟨p, v, c, n, true⟩ := by simp [setS]
        rw [e0]
        exact go_set_same s p v c n _ hu 128 _ rfl
      · have e0 : setS s (findN s p v c) ⟨p, v, c, n, true⟩ i = s i := by simp [setS, e]
        rw [e0] at hiu ⊢
        have ho := h.own i hi' hiu
        have hq := go_set_other s (s i).p (s i).v (s i).c (findN s p v c) ⟨p, v, c, n, true⟩ hu 128 (homeN (s i).p (s i).v (s i).c) (by
          have : go s (s i).p (s i).v (s i).c 128 (homeN (s i).p (s i).v (s i).c) = i := ho
          rw [this]; exact e)
        exact hq.trans ho
    · by_cases e : i = findN s p v c
      · subst e; simp [setS] at hiu
      · have e0 : setS s (findN s p v c) ⟨p, v, c, n, true⟩ i = s i := by simp [setS, e]
        rw [e0] at hiu ⊢
        exact h.zero i hi' hiu
    · by_cases e : i = findN s p v c
      · subst e; simpa [setS] using hr
      · have e0 : setS s (findN s p v c) ⟨p, v, c, n, true⟩ i = s i := by simp [setS, e]
        rw [e0] at hiu ⊢
        exact h.right i hi' hiu
    · rw [cntU_set hi hu rfl, h.cnt]; simp
  · rw [if_neg h0, if_neg h0]; exact h

theorem putC_ok {s : Nat → Slot} {len room p v c : Int} : putC s len room p v c = 0 ↔ rightB p v c = true ∧ there s p v c = false ∧ len < room := by
  unfold putC there
  constructor
  · intro h0
    split at h0
    · rename_i hr
      split at h0
      · omega
      · rename_i hu
        split at h0
        · omega
        · exact ⟨hr, by simpa using hu, by omega⟩
    · omega
  · rintro ⟨h1, h2, h3⟩
    rw [if_pos h1, if_neg (by rw [h2]; simp), if_neg (by omega)]

theorem val_some {s : Nat → Slot} {len room : Int} (h : CInv s len room) {p v c x : Int} : val s p v c = some x ↔ ∃ i, i < 128 ∧ (s i).used = true ∧ (s i).p = p ∧ (s i).v = v ∧ (s i).c = c ∧ (s i).n = x := by
  unfold val
  constructor
  · intro hv
    split at hv
    · rename_i ht
      obtain ⟨h1, h2, h3⟩ := there_key h ht
      simp only [Option.some.injEq] at hv
      exact ⟨_, findN_lt s p v c, ht, h1, h2, h3, hv⟩
    · cases hv
  · rintro ⟨i, hi, hu, rfl, rfl, rfl, rfl⟩
    have ho := h.own i hi hu
    rw [if_pos (by unfold there; rw [ho]; exact hu), ho]
theorem val_there {s : Nat → Slot} {p v c : Int} : there s p v c = (val s p v c).isSome := by
  unfold val; cases there s p v c <;> rfl
theorem val_n {s : Nat → Slot} {len room : Int} (h : CInv s len room) (p v c : Int) : (s (findN s p v c)).n = (val s p v c).getD 0 := by
  unfold val
  cases ht : there s p v c with
  | true => rfl
  | false =>
    have := h.zero _ (findN_lt s p v c) ht
    rw [this]; rfl
theorem putC_ok' {s : Nat → Slot} {len room p v c : Int} : putC s len room p v c = 0 ↔ rightB p v c = true ∧ val s p v c = none ∧ len < room := by
  rw [putC_ok, val_there]
  cases val s p v c <;> simp
theorem val_put {s : Nat → Slot} {len room : Int} (h : CInv s len room) {p v c n : Int} (h0 : putC s len room p v c = 0) (p' v' c' : Int) :
    val (putS s len room p v c n) p' v' c' = if p' = p ∧ v' = v ∧ c' = c then some n else val s p' v' c' := by
  have hp := h.put p v c n
  obtain ⟨hr, hv, hlt⟩ := putC_ok'.1 h0
  have hu : (s (findN s p v c)).used = false := by have := (putC_ok.1 h0).2.1; exact this
  have e : putS s len room p v c n = setS s (findN s p v c) ⟨p, v, c, n, true⟩ := by unfold putS; rw [if_pos h0]
  apply Option.ext
  intro x
  rw [val_some hp, e]
  constructor
  · rintro ⟨i, hi, hiu, h1, h2, h3, h4⟩
    by_cases ei : i = findN s p v c
    · subst ei
      simp only [setS, if_true] at h1 h2 h3 h4
      rw [if_pos ⟨h1.symm, h2.symm, h3.symm⟩, h4]
    · have e0 : setS s (findN s p v c) ⟨p, v, c, n, true⟩ i = s i := by simp [setS, ei]
      rw [e0] at hiu h1 h2 h3 h4
      have hx := (val_some h).2 ⟨i, hi, hiu, h1, h2, h3, h4⟩
      rw [if_neg]
      · exact hx
      · rintro ⟨rfl, rfl, rfl⟩
        rw [hv] at hx; cases hx
  · intro hx
    split at hx
    · rename_i hk
      obtain ⟨rfl, rfl, rfl⟩ := hk
      simp only [Option.some.injEq] at hx
      exact ⟨_, findN_lt s p' v' c', by simp [setS, hx]⟩
    · obtain ⟨i, hi, hiu, h1, h2, h3, h4⟩ := (val_some h).1 hx
      have ei : i ≠ findN s p v c := by rintro rfl; rw [hu] at hiu; cases hiu
      have e0 : setS s (findN s p v c) ⟨p, v, c, n, true⟩ i = s i := by simp [setS, ei]
      exact ⟨i, hi, by rw [e0]; exact ⟨hiu, h1, h2, h3, h4⟩⟩
theorem put_not {s : Nat → Slot} {len room p v c n : Int} (h0 : putC s len room p v c ≠ 0) : putS s len room p v c n = s ∧ cputL s len room p v c = len := by
  unfold putS cputL; rw [if_neg h0, if_neg h0]; exact ⟨rfl, rfl⟩
end Go.Proofs.YtcablikikkmfjaaGreat
end

section
/- Package conns: the table's functions, said of a table that is in order. -/
set_option linter.unusedVariables false
set_option linter.unusedSimpArgs false
namespace Go.Proofs.YtcablikikkmfjaaGreat
open Go.Vc Go.RowKit

theorem get_tab {b : Nat} {s : Nat → Slot} {len room : Int} (p v c : Int) {w : World} (ht : Own w b (encT s len room) 244) (hi : CInv s len room) :
    CV Tryz.prog 111 #[.pointer (some ⟨b, 0, none⟩), .agg #[.int .i64 p, .int .i64 v, .int .i64 c]] w fun x w1 => x = .tuple #[.int .i64 ((val s p v c).getD 0), .bool (val s p v c).isSome] ∧ Step No w w1 := by
  obtain ⟨e, he, hu⟩ := hi.unused
  refine (get_any b s len room p v c w ht e he hu).mono ?_
  rintro x w1 ⟨rfl, hs⟩
  exact ⟨by rw [← val_n hi, ← val_there]; rfl, hs⟩
theorem put_tab {b : Nat} {s : Nat → Slot} {len room : Int} (p v c n : Int) {w : World} (ht : Own w b (encT s len room) 244) (hi : CInv s len room) :
    CV Tryz.prog 61 #[.pointer (some ⟨b, 0, none⟩), .agg #[.int .i64 p, .int .i64 v, .int .i64 c], .int .i64 n] w fun x w1 => x = .int .i64 (putC s len room p v c) ∧ Own w1 b (encT (putS s len room p v c n) (cputL s len room p v c) room) 244 ∧ CInv (putS s len room p v c n) (cputL s len room p v c) room ∧ Step (Just b) w w1 := by
  obtain ⟨e, he, hu⟩ := hi.unused
  refine (put_any b s len room p v c n w ht e he hu (by have := hi.cnt; omega) (by have := hi.fits; have := hi.cap; omega)).mono ?_
  rintro x w1 ⟨rfl, h1, h2⟩
  exact ⟨rfl, h1, hi.put p v c n, h2⟩
theorem len_tab {b : Nat} {s : Nat → Slot} {len room : Int} {w : World} (ht : Own w b (encT s len room) 244) :
    CV Tryz.prog 187 #[.pointer (some ⟨b, 0, none⟩)] w fun x w1 => x = .int .i64 len ∧ Step No w w1 := len_any b s len room w ht

/-- What is done: a key, a number. -/
structure Op4 where
  p : Int
  v : Int
  c : Int
  n : Int
def OpsB (w : World) (b o n : Nat) (q : Nat → Op4) : Prop := ∀ i, i < n →
  w.cell? ⟨b, o + i * 4, none⟩ = some (.int .i64 (q i).p) ∧ w.cell? ⟨b, o + i * 4 + 1, none⟩ = some (.int .i64 (q i).v) ∧ w.cell? ⟨b, o + i * 4 + 2, none⟩ = some (.int .i64 (q i).c) ∧ w.cell? ⟨b, o + i * 4 + 3, none⟩ = some (.int .i64 (q i).n)
theorem OpsB.key {w w1 : World} {b o n : Nat} {q : Nat → Op4} (h : OpsB w b o n q) (hs : Step No w w1) {P : Program} {t : TypeId} (ht : aggB P t = some 3) (i : Nat) (hi : i < n) : Loads P t w1 ⟨b, o + i * 4, none⟩ (.agg #[.int .i64 (q i).p, .int .i64 (q i).v, .int .i64 (q i).c]) := by
  obtain ⟨h1, h2, h3, _⟩ := h i hi
  refine Loads.cells ht _ rfl fun j hj => ?_
  rw [add_none]
  match j, hj with
  | 0, _ => exact hs.cell id h1
  | 1, _ => exact hs.cell id h2
  | 2, _ => exact hs.cell id h3
end Go.Proofs.YtcablikikkmfjaaGreat
end

section
/- Package conns in plain Lean: Drop: those that lie behind are laid anew. -/
set_option linter.unusedVariables false
set_option linter.unusedSimpArgs false
namespace Go.Proofs.YtcablikikkmfjaaGreat
open Go.Vc

def homeS (x : Slot) : Nat := homeN x.p x.v x.c
/-- Places, told from a place e on. -/
def atE (e k : Nat) : Nat := (e + k) % 128
def offE (e i : Nat) : Nat := (i + 128 - e) % 128
theorem atE_lt (e k : Nat) : atE e k < 128 := Nat.mod_lt _ (by decide)
theorem offE_lt (e i : Nat) : offE e i < 128 := Nat.mod_lt _ (by decide)
theorem atE_off {e i : Nat} (he : e < 128) (hi : i < 128) : atE e (offE e i) = i := by unfold atE offE; omega
theorem offE_at {e k : Nat} (he : e < 128) (hk : k < 128) : offE e (atE e k) = k := by unfold atE offE; omega
theorem atE_succ {e k : Nat} (he : e < 128) : (atE e k + 1) % 128 = atE e (k + 1) := by unfold atE; omega
theorem atE_zero {e : Nat} (he : e < 128) : atE e 0 = e := by unfold atE; omega

theorem hit_self (x : Slot) : hitB x x.p x.v x.c = true := by simp [hitB]
/-- A search along a way of which all but the last place are taken, by other keys. -/
theorem go_along (s : Nat → Slot) (p v c : Int) (e : Nat) (he : e < 128) : ∀ (d h f : Nat), h + d < 128 → d < f → (∀ x, h ≤ x → x < h + d → (s (atE e x)).used = true ∧ hitB (s (atE e x)) p v c = false) →
    ((s (atE e (h + d))).used = false ∨ hitB (s (atE e (h + d))) p v c = true) → go s p v c f (atE e h) = atE e (h + d)
  | 0, h, f, h1, h2, _, h4 => by
    obtain ⟨f, rfl⟩ : ∃ g, f = g + 1 := ⟨f - 1, by omega⟩
    exact go_stop s p v c f _ h4
  | d + 1, h, f, h1, h2, h3, h4 => by
    obtain ⟨f, rfl⟩ : ∃ g, f = g + 1 := ⟨f - 1, by omega⟩
    obtain ⟨a, b⟩ := h3 h (Nat.le_refl _) (by omega)
    rw [go_next _ _ _ _ _ _ a b, atE_succ he]
    have := go_along s p v c e he d (h + 1) f (by omega) (by omega) (fun x hx1 hx2 => h3 x (by omega) (by omega)) (by rw [show h + 1 + d = h + (d + 1) by omega]; exact h4)
    rw [this]; congr 1; omega
/-- Where a search that starts at e's h-th place stops: the first place that is free, or has the key. -/
theorem go_first (s : Nat → Slot) (p v c : Int) (e : Nat) (he : e < 128) (h k : Nat) (hk : k < 128) (hh : h ≤ k) (hs : (s (atE e k)).used = false ∨ hitB (s (atE e k)) p v c = true) :
    ∃ j, h ≤ j ∧ j ≤ k ∧ go s p v c 128 (atE e h) = atE e j ∧ (∀ x, h ≤ x → x < j → (s (atE e x)).used = true ∧ hitB (s (atE e x)) p v c = false) ∧ ((s (atE e j)).used = false ∨ hitB (s (atE e j)) p v c = true) := by
  -- the least j from h on at which it stops
  have key : ∀ n h, k - h = n → h ≤ k → ∃ j, h ≤ j ∧ j ≤ k ∧ (∀ x, h ≤ x → x < j → (s (atE e x)).used = true ∧ hitB (s (atE e x)) p v c = false) ∧ ((s (atE e j)).used = false ∨ hitB (s (atE e j)) p v c = true) := by
    intro n
    induction n with
    | zero => intro h hn hle; obtain rfl : h = k := (by omega); exact ⟨h, Nat.le_refl _, Nat.le_refl _, fun x h1 h2 => by omega, hs⟩
    | succ n ih =>
      intro h hn hle
      by_cases hst : (s (atE e h)).used = false ∨ hitB (s (atE e h)) p v c = true
      · exact ⟨h, Nat.le_refl _, hle, fun x h1 h2 => by omega, hst⟩
      · obtain ⟨j, h1, h2, h3, h4⟩ := ih (h + 1) (by omega) (by omega)
        refine ⟨j, by omega, h2, fun x hx1 hx2 => ?_, h4⟩
        by_cases ex : x = h
        · subst ex
          constructor
          · cases hu : (s (atE e x)).used
            · exact absurd (.inl hu) hst
            · rfl
          · cases hb : hitB (s (atE e x)) p v c
            · rfl
            · exact absurd (.inr hb) hst
        · exact h3 x (by omega) hx2
  obtain ⟨j, h1, h2, h3, h4⟩ := key _ h rfl hh
  refine ⟨j, h1, h2, ?_, h3, h4⟩
  have := go_along s p v c e he (j - h) h 128 (by omega) (by omega) (fun x hx1 hx2 => h3 x hx1 (by omega)) (by rw [show h + (j - h) = j by omega]; exact h4)
  rw [this]; congr 1; omega

/-- No key lies at two places. -/
def Apart (s : Nat → Slot) : Prop := ∀ i j, i < 128 → j < 128 → (s i).used = true → (s j).used = true → (s i).p = (s j).p → (s i).v = (s j).v → (s i).c = (s j).c → i = j
theorem CInv.apart {s : Nat → Slot} {len room : Int} (h : CInv s len room) : Apart s := by
  intro i j hi hj ui uj h1 h2 h3
  have a := h.own i hi ui
  rw [h1, h2, h3] at a
  exact a.symm.trans (h.own j hj uj)
/-- Each place from a key's home on is taken, up to its own, but for those of H. -/
structure LinI (s : Nat → Slot) (e : Nat) (H : Nat → Nat → Prop) : Prop where
  free : (s e).used = false
  way : ∀ k, k < 128 → (s (atE e k)).used = true → offE e (homeS (s (atE e k))) ≤ k ∧ ∀ x, offE e (homeS (s (atE e k))) ≤ x → x < k → (s (atE e x)).used = true ∨ H k x
  pos : ∀ k, k < 128 → (s (atE e k)).used = true → 0 < offE e (homeS (s (atE e k)))
theorem CInv.lin {s : Nat → Slot} {len room : Int} (h : CInv s len room) {e : Nat} (he : e < 128) (hu : (s e).used = false) : LinI s e (fun _ _ => False) := by
  refine ⟨hu, fun k hk hku => ?_, fun k hk hku => Nat.pos_of_ne_zero fun h0 => ?_⟩
  rotate_left
  · have hh : homeS (s (atE e k)) < 128 := homeN_lt _ _ _
    have hho : homeN (s (atE e k)).p (s (atE e k)).v (s (atE e k)).c = e := by
      have := atE_off he hh
      rw [h0, atE_zero he] at this; exact this.symm
    have ho := h.own (atE e k) (atE_lt e k) hku
    unfold findN at ho
    rw [hho, go_stop _ _ _ _ 127 _ (.inl hu)] at ho
    rw [← ho, hu] at hku; cases hku
  have hh : homeS (s (atE e k)) < 128 := homeN_lt _ _ _
  have ho := h.own (atE e k) (atE_lt e k) hku
  have hho : homeN (s (atE e k)).p (s (atE e k)).v (s (atE e k)).c = atE e (offE e (homeS (s (atE e k)))) := (atE_off he hh).symm
  unfold findN at ho
  rw [hho] at ho
  generalize hho2 : offE e (homeS (s (atE e k))) = ho2 at *
  have hl : ho2 < 128 := by rw [← hho2]; exact offE_lt _ _
  by_cases hle : ho2 ≤ k
  · refine ⟨hle, fun x hx1 hx2 => .inl ?_⟩
    obtain ⟨j, j1, j2, j3, j4, j5⟩ := go_first s (s (atE e k)).p (s (atE e k)).v (s (atE e k)).c e he ho2 k hk hle (.inr (hit_self _))
    rw [ho] at j3
    have hjk : k = j := by
      have := congrArg (offE e) j3
      rwa [offE_at he hk, offE_at he (by omega)] at this
    exact (j4 x hx1 (by omega)).1
  · exfalso
    -- the search ends ahead of e's own place: at 127 + 1 it is free
    have h128 : atE e 128 = e := by unfold atE; omega
    have walk : ∀ f h, ho2 ≤ h → h ≤ 128 → 128 - h < f → ∃ j, h ≤ j ∧ j ≤ 128 ∧ go s (s (atE e k)).p (s (atE e k)).v (s (atE e k)).c f (atE e h) = atE e j := by
      intro f
      induction f with
      | zero => intro h _ _ hf; omega
      | succ f ih =>
        intro h h1 h2 h3
        by_cases hst : (s (atE e h)).used = true ∧ hitB (s (atE e h)) (s (atE e k)).p (s (atE e k)).v (s (atE e k)).c = false
        · have hne : h ≠ 128 := by rintro rfl; rw [h128, hu] at hst; cases hst.1
          rw [go_next _ _ _ _ _ _ hst.1 hst.2, atE_succ he]
          obtain ⟨j, j1, j2, j3⟩ := ih (h + 1) (by omega) (by omega) (by omega)
          exact ⟨j, by omega, j2, j3⟩
        · refine ⟨h, Nat.le_refl _, h2, go_stop _ _ _ _ _ _ ?_⟩
          cases hu2 : (s (atE e h)).used
          · exact .inl rfl
          · cases hb2 : hitB (s (atE e h)) (s (atE e k)).p (s (atE e k)).v (s (atE e k)).c
            · exact absurd ⟨hu2, hb2⟩ hst
            · exact .inr rfl
    obtain ⟨j, j1, j2, j3⟩ := walk 128 ho2 (Nat.le_refl _) (by omega) (by
      have : 0 < ho2 := by omega
      omega)
    rw [ho] at j3
    by_cases ej : j = 128
    · rw [ej, h128] at j3; rw [j3, hu] at hku; cases hku
    · have := congrArg (offE e) j3
      rw [offE_at he hk, offE_at he (by omega)] at this
      omega
/-- And back. -/
theorem LinI.own {s : Nat → Slot} {e : Nat} (h : LinI s e (fun _ _ => False)) (he : e < 128) (ha : Apart s) : ∀ i, i < 128 → (s i).used = true → findN s (s i).p (s i).v (s i).c = i := by
  intro i hi hiu
  have ei := atE_off he hi
  have hk := offE_lt e i
  obtain ⟨w1, w2⟩ := h.way (offE e i) hk (by rw [ei]; exact hiu)
  rw [ei] at w1 w2
  have hh : homeS (s i) < 128 := homeN_lt _ _ _
  have hho : homeN (s i).p (s i).v (s i).c = atE e (offE e (homeS (s i))) := (atE_off he hh).symm
  unfold findN
  rw [hho]
  generalize offE e (homeS (s i)) = ho at *
  have := go_along s (s i).p (s i).v (s i).c e he (offE e i - ho) ho 128 (by omega) (by omega) (fun x hx1 hx2 => by
    have hu := (w2 x hx1 (by omega)).resolve_right id
    refine ⟨hu, ?_⟩
    cases hb : hitB (s (atE e x)) (s i).p (s i).v (s i).c
    · rfl
    · obtain ⟨b1, b2, b3⟩ := hit_eq hb
      have := ha _ _ (atE_lt e x) hi hu hiu b1 b2 b3
      have := congrArg (offE e) this
      rw [offE_at he (by omega)] at this
      omega) (by rw [show ho + (offE e i - ho) = offE e i by omega, ei]; exact .inr (hit_self _))
  rw [this, show ho + (offE e i - ho) = offE e i by omega, ei]
/-! ### The loop that lays anew -/
/-- k places behind e is the next one that is laid anew. -/
structure DropI (s : Nat → Slot) (e k : Nat) : Prop where
  lin : LinI s e (fun j x => k ≤ j ∧ x < k)
  apart : Apart s
  zero : ∀ i, i < 128 → (s i).used = false → s i = noSlot
/-- What a table holds. -/
def HasS (s : Nat → Slot) (x : Slot) : Prop := x.used = true ∧ ∃ i, i < 128 ∧ s i = x
theorem setS_eq (s : Nat → Slot) (i : Nat) (x : Slot) : setS s i x i = x := by simp [setS]
theorem setS_ne {s : Nat → Slot} {i j : Nat} (h : j ≠ i) (x : Slot) : setS s i x j = s j := by simp [setS, h]
/-- A place is emptied: what lies behind it may have a hole ahead. -/
theorem LinI.clear {s : Nat → Slot} {e k : Nat} (h : LinI s e (fun j x => k ≤ j ∧ x < k)) (he : e < 128) (hk : k < 128) : LinI (setS s (atE e k) noSlot) e (fun j x => k + 1 ≤ j ∧ x < k + 1) := by
  refine ⟨?_, fun j hj hju => ?_, fun j hj hju => ?_⟩
  rotate_right
  · by_cases ej : j = k
    · subst ej; rw [setS_eq] at hju; cases hju
    · have hne : atE e j ≠ atE e k := fun e1 => ej (by have := congrArg (offE e) e1; rwa [offE_at he hj, offE_at he hk] at this)
      rw [setS_ne hne] at hju ⊢
      exact h.pos j hj hju
  · by_cases h0 : e = atE e k
    · rw [← h0, setS_eq]; rfl
    · rw [setS_ne h0]; exact h.free
  · by_cases ej : j = k
    · subst ej; rw [setS_eq] at hju; cases hju
    · have hne : atE e j ≠ atE e k := fun e1 => ej (by have := congrArg (offE e) e1; rwa [offE_at he hj, offE_at he hk] at this)
      rw [setS_ne hne] at hju ⊢
      obtain ⟨w1, w2⟩ := h.way j hj hju
      refine ⟨w1, fun x hx1 hx2 => ?_⟩
      by_cases ex : x = k
      · right; omega
      · have hne2 : atE e x ≠ atE e k := fun e1 => ex (by have := congrArg (offE e) e1; rwa [offE_at he (by omega), offE_at he hk] at this)
        rw [setS_ne hne2]
        rcases w2 x hx1 hx2 with h1 | h1
        · exact .inl h1
        · right; omega
theorem Apart.clear {s : Nat → Slot} (h : Apart s) (i : Nat) : Apart (setS s i noSlot) := by
  intro a b ha hb ua ub
  have na : a ≠ i := by rintro rfl; rw [setS_eq] at ua; cases ua
  have nb : b ≠ i := by rintro rfl; rw [setS_eq] at ub; cases ub
  rw [setS_ne na] at ua ⊢
  rw [setS_ne nb] at ub ⊢
  exact h a b ha hb ua ub
theorem zero_clear {s : Nat → Slot} (h : ∀ i, i < 128 → (s i).used = false → s i = noSlot) (i : Nat) : ∀ j, j < 128 → (setS s i noSlot j).used = false → setS s i noSlot j = noSlot := by
  intro j hj hu
  by_cases e : j = i
  · subst e; rw [setS_eq]
  · rw [setS_ne e] at hu ⊢; exact h j hj hu
/-- It is laid anew. -/
theorem DropI.next {s : Nat → Slot} {e k : Nat} (h : DropI s e k) (he : e < 128) (hk : k < 128) (hu : (s (atE e k)).used = true) :
    ∃ f, f < 128 ∧ findN (setS s (atE e k) noSlot) (s (atE e k)).p (s (atE e k)).v (s (atE e k)).c = f ∧ (setS s (atE e k) noSlot f).used = false ∧
      DropI (setS (setS s (atE e k) noSlot) f (s (atE e k))) e (k + 1) ∧ (∀ x, HasS (setS (setS s (atE e k) noSlot) f (s (atE e k))) x ↔ HasS s x) := by
  generalize hX : s (atE e k) = X at *
  have hl := h.lin.clear he hk
  have ha := h.apart.clear (atE e k)
  have hz := zero_clear h.zero (atE e k)
  obtain ⟨w1, w2⟩ := h.lin.way k hk (by rw [hX]; exact hu)
  rw [hX] at w1 w2
  have hh : homeS X < 128 := homeN_lt _ _ _
  have hho : homeN X.p X.v X.c = atE e (offE e (homeS X)) := (atE_off he hh).symm
  obtain ⟨j, j1, j2, j3, j4, j5⟩ := go_first (setS s (atE e k) noSlot) X.p X.v X.c e he (offE e (homeS X)) k hk w1 (.inl (by rw [setS_eq]; rfl))
  -- the key is nowhere else
  have hno : ∀ i, i < 128 → (setS s (atE e k) noSlot i).used = true → hitB (setS s (atE e k) noSlot i) X.p X.v X.c = false := by
    intro i hi hiu
    have ni : i ≠ atE e k := by rintro rfl; rw [setS_eq] at hiu; cases hiu
    rw [setS_ne ni] at hiu ⊢
    cases hb : hitB (s i) X.p X.v X.c
    · rfl
    · obtain ⟨b1, b2, b3⟩ := hit_eq hb
      exact absurd (h.apart i (atE e k) hi (atE_lt e k) hiu (by rw [hX]; exact hu) (by rw [hX, b1]) (by rw [hX, b2]) (by rw [hX, b3])) ni
  have hju : (setS s (atE e k) noSlot (atE e j)).used = false := by
    rcases j5 with h5 | h5
    · exact h5
    · cases hq : (setS s (atE e k) noSlot (atE e j)).used
      · rfl
      · rw [hno _ (atE_lt e j) hq] at h5; cases h5
  refine ⟨atE e j, atE_lt e j, by unfold findN; rw [hho]; exact j3, hju, ⟨⟨?_, ?_, ?_⟩, ?_, ?_⟩, ?_⟩
  rotate_left 2
  · intro i hi hiu
    by_cases ei : i = j
    · subst ei
      rw [setS_eq] at hiu ⊢
      have hp := h.lin.pos k hk (by rw [hX]; exact hu)
      rwa [hX] at hp
    · have hne : atE e i ≠ atE e j := fun e1 => ei (by have := congrArg (offE e) e1; rwa [offE_at he hi, offE_at he (by omega)] at this)
      rw [setS_ne hne] at hiu ⊢
      exact hl.pos i hi hiu
  rotate_right 2
  · -- e stays free
    by_cases e0 : e = atE e j
    · exfalso
      have hj0 : j = 0 := by have := congrArg (offE e) e0; rw [offE_at he (by omega)] at this; rw [← this]; unfold offE; omega
      -- home is e: then the way from there on had e in it
      have hp := h.lin.pos k hk (by rw [hX]; exact hu)
      rw [hX] at hp
      omega
    · rw [setS_ne e0]; exact hl.free
  · intro i hi hiu
    by_cases ei : i = j
    · subst ei
      rw [setS_eq] at hiu ⊢
      refine ⟨j1, fun x hx1 hx2 => .inl ?_⟩
      have hne : atE e x ≠ atE e i := fun e1 => by have := congrArg (offE e) e1; rw [offE_at he (by omega), offE_at he (by omega)] at this; omega
      rw [setS_ne hne]
      exact (j4 x hx1 hx2).1
    · have hne : atE e i ≠ atE e j := fun e1 => ei (by have := congrArg (offE e) e1; rwa [offE_at he hi, offE_at he (by omega)] at this)
      rw [setS_ne hne] at hiu ⊢
      obtain ⟨v1, v2⟩ := hl.way i hi hiu
      refine ⟨v1, fun x hx1 hx2 => ?_⟩
      rcases v2 x hx1 hx2 with h1 | h1
      · left
        by_cases ex : atE e x = atE e j
        · rw [ex, setS_eq]; exact hu
        · rw [setS_ne ex]; exact h1
      · exact .inr h1
  · intro a b ha' hb' ua ub c1 c2 c3
    by_cases ea : a = atE e j
    · by_cases eb : b = atE e j
      · rw [ea, eb]
      · exfalso
        rw [ea, setS_eq] at c1 c2 c3
        rw [setS_ne eb] at ub c1 c2 c3
        have := hno b hb' ub
        rw [show hitB (setS s (atE e k) noSlot b) X.p X.v X.c = true by simp [hitB, c1, c2, c3]] at this
        cases this
    · by_cases eb : b = atE e j
      · exfalso
        rw [eb, setS_eq] at c1 c2 c3
        rw [setS_ne ea] at ua c1 c2 c3
        have := hno a ha' ua
        rw [show hitB (setS s (atE e k) noSlot a) X.p X.v X.c = true by simp [hitB, c1, c2, c3]] at this
        cases this
      · rw [setS_ne ea] at ua c1 c2 c3
        rw [setS_ne eb] at ub c1 c2 c3
        exact ha a b ha' hb' ua ub c1 c2 c3
  · intro i hi hiu
    by_cases ei : i = atE e j
    · rw [ei, setS_eq, hu] at hiu; cases hiu
    · rw [setS_ne ei] at hiu ⊢; exact hz i hi hiu
  · intro x
    constructor
    · rintro ⟨hx, i, hi, hix⟩
      refine ⟨hx, ?_⟩
      by_cases ei : i = atE e j
      · rw [ei, setS_eq] at hix; exact ⟨atE e k, atE_lt e k, by rw [hX]; exact hix⟩
      · rw [setS_ne ei] at hix
        by_cases ei2 : i = atE e k
        · rw [ei2, setS_eq] at hix; rw [← hix] at hx; cases hx
        · rw [setS_ne ei2] at hix; exact ⟨i, hi, hix⟩
    · rintro ⟨hx, i, hi, hix⟩
      refine ⟨hx, ?_⟩
      by_cases ei2 : i = atE e k
      · exact ⟨atE e j, atE_lt e j, by rw [setS_eq, ← hX, ← ei2]; exact hix⟩
      · have : i ≠ atE e j := by
          rintro rfl
          rw [setS_ne ei2, hix, hx] at hju; cases hju
        exact ⟨i, hi, by rw [setS_ne this, setS_ne ei2]; exact hix⟩
/-- The loop's end: what lies behind is in order. -/
theorem DropI.done {s : Nat → Slot} {e k : Nat} (h : DropI s e k) (he : e < 128) (hk : k < 128 ∧ (s (atE e k)).used = false ∨ k = 128) : ∀ i, i < 128 → (s i).used = true → findN s (s i).p (s i).v (s i).c = i := by
  refine LinI.own ⟨h.lin.free, fun j hj hju => ?_, h.lin.pos⟩ he h.apart
  obtain ⟨w1, w2⟩ := h.lin.way j hj hju
  refine ⟨w1, fun x hx1 hx2 => .inl ?_⟩
  rcases w2 x hx1 hx2 with h1 | ⟨h1, h2⟩
  · exact h1
  · -- j lies behind the free place k: its way has k in it
    rcases hk with ⟨hk, hku⟩ | hk
    · by_cases ejk : j = k
      · subst ejk; rw [hku] at hju; cases hju
      · rcases w2 k (by omega) (by omega) with h3 | h3
        · rw [hku] at h3; cases h3
        · omega
    · omega
end Go.Proofs.YtcablikikkmfjaaGreat
end

section
/- Package conns in plain Lean: a table is a list of entries, in order. -/
set_option linter.unusedVariables false
set_option linter.unusedSimpArgs false
namespace Go.Proofs.YtcablikikkmfjaaGreat
open Go.Vc
/-- An entry: a key, a number. -/
structure Ent where
  p : Int
  v : Int
  c : Int
  n : Int
deriving DecidableEq
def Ent.slot (x : Ent) : Slot := ⟨x.p, x.v, x.c, x.n, true⟩
def Slot.ent (x : Slot) : Ent := ⟨x.p, x.v, x.c, x.n⟩
/-- Is a key ahead of another one? -/
def befK (p v c p' v' c' : Int) : Bool := decide (p < p' ∨ p = p' ∧ (v < v' ∨ v = v' ∧ c < c'))
def befE (x y : Ent) : Bool := befK x.p x.v x.c y.p y.v y.c
def keyIs (x : Ent) (p v c : Int) : Bool := decide (x.p = p ∧ x.v = v ∧ x.c = c)
theorem befK_iff {p v c p' v' c' : Int} : befK p v c p' v' c' = true ↔ p < p' ∨ p = p' ∧ (v < v' ∨ v = v' ∧ c < c') := by simp [befK]
theorem befK_false {p v c p' v' c' : Int} : befK p v c p' v' c' = false ↔ ¬ (p < p' ∨ p = p' ∧ (v < v' ∨ v = v' ∧ c < c')) := by simp only [befK, decide_eq_false_iff_not]
theorem befE_irrefl (x : Ent) : befE x x = false := befK_false.2 (by omega)
theorem befE_trans {x y z : Ent} (h : befE x y = true) (k : befE y z = true) : befE x z = true := by
  have h := befK_iff.1 h
  have k := befK_iff.1 k
  exact befK_iff.2 (by omega)
theorem befE_total {x y : Ent} (h : ¬ (x.p = y.p ∧ x.v = y.v ∧ x.c = y.c)) (k : befE x y = false) : befE y x = true := by
  have k := befK_false.1 k
  exact befK_iff.2 (by omega)
theorem befE_ne {x y : Ent} (h : befE x y = true) : ¬ (x.p = y.p ∧ x.v = y.v ∧ x.c = y.c) := by
  have h := befK_iff.1 h
  omega
def SrtE (L : List Ent) : Prop := L.Pairwise fun x y => befE x y = true
theorem SrtE.nodup {L : List Ent} (h : SrtE L) : L.Nodup := by
  refine List.Pairwise.imp ?_ h
  rintro x y hxy rfl
  rw [befE_irrefl] at hxy; cases hxy
theorem SrtE.inj {L : List Ent} (h : SrtE L) {x y : Ent} (hx : x ∈ L) (hy : y ∈ L) (hk : x.p = y.p ∧ x.v = y.v ∧ x.c = y.c) : x = y := by
  induction L with
  | nil => simp at hx
  | cons z L ih =>
    obtain ⟨hz, hL⟩ := List.pairwise_cons.1 h
    rcases List.mem_cons.1 hx with e1 | hx1
    · rcases List.mem_cons.1 hy with e2 | hy1
      · rw [e1, e2]
      · rw [e1] at hk; exact absurd hk (befE_ne (hz y hy1))
    · rcases List.mem_cons.1 hy with e2 | hy1
      · rw [e2] at hk; exact absurd ⟨hk.1.symm, hk.2.1.symm, hk.2.2.symm⟩ (befE_ne (hz x hx1))
      · exact ih hL hx1 hy1
/-! ### What is done with a list -/
def lookE (L : List Ent) (p v c : Int) : Option Int := (L.find? fun x => keyIs x p v c).map (·.n)
def delE (L : List Ent) (p v c : Int) : List Ent := L.filter fun x => !keyIs x p v c
/-- How many are ahead of a key. -/
def aheadE : List Ent → Int → Int → Int → Nat
  | [], _, _, _ => 0
  | x :: L, p, v, c => bif befK x.p x.v x.c p v c then aheadE L p v c + 1 else 0
def insE (L : List Ent) (x : Ent) : List Ent := L.take (aheadE L x.p x.v x.c) ++ x :: L.drop (aheadE L x.p x.v x.c)
theorem insE_cons (y : Ent) (L : List Ent) (x : Ent) : insE (y :: L) x = bif befE y x then y :: insE L x else x :: y :: L := by
  unfold insE befE
  simp only [aheadE]
  cases befK y.p y.v y.c x.p x.v x.c <;> simp
theorem mem_insE {L : List Ent} {x y : Ent} : y ∈ insE L x ↔ y = x ∨ y ∈ L := by
  unfold insE
  rw [List.mem_append, List.mem_cons]
  constructor
  · rintro (h | h | h)
    · exact .inr (List.mem_of_mem_take h)
    · exact .inl h
    · exact .inr (List.mem_of_mem_drop h)
  · rintro (h | h)
    · exact .inr (.inl h)
    · rw [← List.take_append_drop (aheadE L x.p x.v x.c) L, List.mem_append] at h
      rcases h with h | h
      · exact .inl h
      · exact .inr (.inr h)
theorem insE_srt {L : List Ent} (h : SrtE L) {x : Ent} (hx : ∀ y ∈ L, ¬ (y.p = x.p ∧ y.v = x.v ∧ y.c = x.c)) : SrtE (insE L x) := by
  induction L with
  | nil => exact List.pairwise_cons.2 ⟨fun y hy => by simp at hy, List.Pairwise.nil⟩
  | cons y L ih =>
    obtain ⟨hy, hL⟩ := List.pairwise_cons.1 h
    rw [insE_cons]
    cases hb : befE y x with
    | true =>
      refine List.pairwise_cons.2 ⟨fun z hz => ?_, ih hL fun z hz => hx z (by simp [hz])⟩
      rcases mem_insE.1 hz with rfl | hz
      · exact hb
      · exact hy z hz
    | false =>
      have hxy := befE_total (hx y (by simp)) hb
      refine List.pairwise_cons.2 ⟨fun z hz => ?_, h⟩
      rcases List.mem_cons.1 hz with rfl | hz
      · exact hxy
      · exact befE_trans hxy (hy z hz)
theorem delE_srt {L : List Ent} (h : SrtE L) (p v c : Int) : SrtE (delE L p v c) := List.Pairwise.filter _ h
theorem mem_delE {L : List Ent} {p v c : Int} {x : Ent} : x ∈ delE L p v c ↔ x ∈ L ∧ ¬ (x.p = p ∧ x.v = v ∧ x.c = c) := by
  unfold delE
  rw [List.mem_filter]
  simp only [keyIs, Bool.not_eq_true', decide_eq_false_iff_not]
theorem lookE_some {L : List Ent} (h : SrtE L) {p v c n : Int} : lookE L p v c = some n ↔ ⟨p, v, c, n⟩ ∈ L := by
  unfold lookE
  constructor
  · intro h1
    obtain ⟨x, hx, rfl⟩ := Option.map_eq_some_iff.1 h1
    have h2 := List.mem_of_find?_eq_some hx
    have h3 := List.find?_some hx
    simp only [keyIs, decide_eq_true_eq] at h3
    obtain ⟨rfl, rfl, rfl⟩ := h3
    exact h2
  · intro h1
    cases hf : L.find? (fun x => keyIs x p v c) with
    | none => exact absurd (List.find?_eq_none.1 hf _ h1) (by simp [keyIs])
    | some y =>
      have h2 := List.mem_of_find?_eq_some hf
      have h3 := List.find?_some hf
      simp only [keyIs, decide_eq_true_eq] at h3
      have := h.inj h2 h1 h3
      rw [this]; rfl
theorem lookE_none {L : List Ent} {p v c : Int} : lookE L p v c = none ↔ ∀ y ∈ L, ¬ (y.p = p ∧ y.v = v ∧ y.c = c) := by
  unfold lookE
  rw [Option.map_eq_none_iff, List.find?_eq_none]
  simp [keyIs]
/-! ### A table holds a list -/
structure TabI (s : Nat → Slot) (len room : Int) (L : List Ent) : Prop where
  inv : CInv s len room
  srt : SrtE L
  mem : ∀ x : Ent, x ∈ L ↔ HasS s x.slot
theorem slot_ent {x : Slot} (h : x.used = true) : x.ent.slot = x := by cases x; simp_all [Slot.ent, Ent.slot]
theorem TabI.new (m : Int) : TabI noSlots 0 (imax 0 (imin m 64)) [] := ⟨CInv.new m, List.Pairwise.nil, fun x => ⟨fun h => by simp at h, fun ⟨_, i, _, h2⟩ => by have := congrArg Slot.used h2; cases this⟩⟩
theorem TabI.len {s : Nat → Slot} {len room : Int} {L : List Ent} (h : TabI s len room L) : len = (L.length : Nat) := by
  have hc : cntU s = L.length := by
    have hn : ((usedL s).map fun i => (s i).ent).Nodup := by
      rw [List.nodup_iff_pairwise_ne, List.pairwise_map]
      refine List.Pairwise.imp_of_mem ?_ (List.nodup_iff_pairwise_ne.1 (usedL_nodup s))
      intro i j hi hj hne heq
      obtain ⟨i1, i2⟩ := mem_usedL.1 hi
      obtain ⟨j1, j2⟩ := mem_usedL.1 hj
      exact hne (h.inv.apart i j i1 j1 i2 j2 (congrArg Ent.p heq) (congrArg Ent.v heq) (congrArg Ent.c heq))
    have h1 := length_le_of_nodup hn (m := L) fun x hx => by
      obtain ⟨i, hi, rfl⟩ := List.mem_map.1 hx
      obtain ⟨i1, i2⟩ := mem_usedL.1 hi
      refine (h.mem _).2 ?_
      rw [slot_ent i2]
      exact ⟨i2, i, i1, rfl⟩
    have h2 := length_le_of_nodup h.srt.nodup (m := (usedL s).map fun i => (s i).ent) fun x hx => by
      obtain ⟨hu, i, hi, hix⟩ := (h.mem x).1 hx
      exact List.mem_map.2 ⟨i, mem_usedL.2 ⟨hi, by rw [hix]; rfl⟩, by rw [hix]; rfl⟩
    rw [List.length_map] at h1 h2
    unfold cntU; omega
  rw [h.inv.cnt, hc]
theorem TabI.val {s : Nat → Slot} {len room : Int} {L : List Ent} (h : TabI s len room L) (p v c : Int) : val s p v c = lookE L p v c := by
  apply Option.ext
  intro n
  rw [val_some h.inv, lookE_some h.srt, h.mem]
  constructor
  · rintro ⟨i, hi, hu, rfl, rfl, rfl, rfl⟩
    refine ⟨rfl, i, hi, ?_⟩
    show s i = (s i).ent.slot
    rw [slot_ent hu]
  · rintro ⟨_, i, hi, hix⟩
    exact ⟨i, hi, by rw [hix]; exact ⟨rfl, rfl, rfl, rfl, rfl⟩⟩
theorem TabI.right {s : Nat → Slot} {len room : Int} {L : List Ent} (h : TabI s len room L) {x : Ent} (hx : x ∈ L) : rightB x.p x.v x.c = true := by
  obtain ⟨hu, i, hi, hix⟩ := (h.mem x).1 hx
  have := h.inv.right i hi (by rw [hix]; rfl)
  rwa [hix] at this
def putK (L : List Ent) (room p v c : Int) : Int := if rightB p v c = true then (if (lookE L p v c).isSome = true then 7 else if (L.length : Int) ≥ room then 9 else 0) else 1
def putE (L : List Ent) (room p v c n : Int) : List Ent := if putK L room p v c = 0 then insE L ⟨p, v, c, n⟩ else L
theorem TabI.putC {s : Nat → Slot} {len room : Int} {L : List Ent} (h : TabI s len room L) (p v c : Int) : putC s len room p v c = putK L room p v c := by
  have h1 : (s (findN s p v c)).used = (lookE L p v c).isSome := by rw [← h.val p v c, ← val_there]; rfl
  unfold Go.Proofs.YtcablikikkmfjaaGreat.putC putK
  rw [h1, h.len]
theorem putK_ok {L : List Ent} {room p v c : Int} : putK L room p v c = 0 ↔ rightB p v c = true ∧ lookE L p v c = none ∧ (L.length : Int) < room := by
  unfold putK
  constructor
  · intro h
    by_cases h1 : rightB p v c = true
    · rw [if_pos h1] at h
      by_cases h2 : (lookE L p v c).isSome = true
      · rw [if_pos h2] at h; omega
      · rw [if_neg h2] at h
        by_cases h3 : (L.length : Int) ≥ room
        · rw [if_pos h3] at h; omega
        · exact ⟨h1, by simpa using h2, by omega⟩
    · rw [if_neg h1] at h; omega
  · rintro ⟨h1, h2, h3⟩
    rw [if_pos h1, if_neg (by rw [h2]; simp), if_neg (by omega)]
theorem TabI.put {s : Nat → Slot} {len room : Int} {L : List Ent} (h : TabI s len room L) (p v c n : Int) : TabI (putS s len room p v c n) (cputL s len room p v c) room (putE L room p v c n) := by
  have hi := h.inv.put p v c n
  by_cases h0 : Go.Proofs.YtcablikikkmfjaaGreat.putC s len room p v c = 0
  · have hk : putK L room p v c = 0 := by rw [← h.putC]; exact h0
    obtain ⟨k1, k2, k3⟩ := putK_ok.1 hk
    have e : putE L room p v c n = insE L ⟨p, v, c, n⟩ := by unfold putE; rw [if_pos hk]
    rw [e]
    refine ⟨hi, insE_srt h.srt (lookE_none.1 k2), fun x => ?_⟩
    have hv : ∀ m, Go.Proofs.YtcablikikkmfjaaGreat.val (putS s len room p v c n) x.p x.v x.c = some m ↔ _ := fun m => val_some hi
    rw [mem_insE]
    have hval := val_put (n := n) h.inv h0 x.p x.v x.c
    have hx : HasS (putS s len room p v c n) x.slot ↔ Go.Proofs.YtcablikikkmfjaaGreat.val (putS s len room p v c n) x.p x.v x.c = some x.n := by
      rw [val_some hi]
      constructor
      · rintro ⟨_, i, hi, hix⟩
        exact ⟨i, hi, by rw [hix]; exact ⟨rfl, rfl, rfl, rfl, rfl⟩⟩
      · rintro ⟨i, hi, hu, h1, h2, h3, h4⟩
        refine ⟨rfl, i, hi, ?_⟩
        have := slot_ent hu
        rw [← this]
        simp [Slot.ent, Ent.slot, h1, h2, h3, h4]
    rw [hx, hval]
    by_cases hk' : x.p = p ∧ x.v = v ∧ x.c = c
    · rw [if_pos hk']
      constructor
      · rintro (rfl | hL)
        · rfl
        · exact absurd hk' (lookE_none.1 k2 x hL)
      · intro hn
        left
        obtain ⟨a1, a2, a3⟩ := hk'
        simp only [Option.some.injEq] at hn
        cases x; simp_all
    · rw [if_neg hk', h.val, lookE_some h.srt]
      constructor
      · rintro (rfl | hL)
        · exact absurd ⟨rfl, rfl, rfl⟩ hk'
        · exact hL
      · exact .inr
  · have hk : ¬ putK L room p v c = 0 := by rw [← h.putC]; exact h0
    rw [(put_not (n := n) h0).1, (put_not (n := n) h0).2] at hi ⊢
    unfold putE
    rw [if_neg hk]
    exact ⟨hi, h.srt, h.mem⟩
/-- What is taken out. -/
theorem TabI.drop {s s' : Nat → Slot} {len room : Int} {L : List Ent} (h : TabI s len room L) {p v c n : Int} (hl : lookE L p v c = some n) {e k : Nat} (he : e < 128) (hd : DropI s' e k) (hk : k < 128 ∧ (s' (atE e k)).used = false ∨ k = 128)
    (hm : ∀ x, HasS s' x ↔ HasS (setS s (findN s p v c) noSlot) x) : TabI s' (len - 1) room (delE L p v c) := by
  have hv : Go.Proofs.YtcablikikkmfjaaGreat.val s p v c = some n := by rw [h.val]; exact hl
  have ht : there s p v c = true := by rw [val_there, hv]; rfl
  obtain ⟨t1, t2, t3⟩ := there_key h.inv ht
  have hu : (s (findN s p v c)).used = true := ht
  have hi := findN_lt s p v c
  have own := hd.done he hk
  have hmem : ∀ x : Ent, x ∈ delE L p v c ↔ HasS s' x.slot := by
    intro x
    rw [mem_delE, hm, h.mem]
    constructor
    · rintro ⟨⟨hu', i, hi', hix⟩, hne⟩
      refine ⟨hu', i, hi', ?_⟩
      have : i ≠ findN s p v c := by
        rintro rfl
        rw [hix] at t1 t2 t3
        exact hne ⟨t1, t2, t3⟩
      rw [setS_ne this]; exact hix
    · rintro ⟨hu', i, hi', hix⟩
      have hne : i ≠ findN s p v c := by
        rintro rfl
        rw [setS_eq] at hix
        have := congrArg Slot.used hix; cases this
      rw [setS_ne hne] at hix
      refine ⟨⟨hu', i, hi', hix⟩, fun hk' => hne ?_⟩
      have hiu : (s i).used = true := by rw [hix]; rfl
      exact h.inv.apart i _ hi' hi hiu hu (by rw [hix, t1]; exact hk'.1) (by rw [hix, t2]; exact hk'.2.1) (by rw [hix, t3]; exact hk'.2.2)
  have hright : ∀ i, i < 128 → (s' i).used = true → rightB (s' i).p (s' i).v (s' i).c = true := by
    intro i hi' hiu
    have hx : (s' i).ent ∈ delE L p v c := (hmem _).2 (by rw [slot_ent hiu]; exact ⟨hiu, i, hi', rfl⟩)
    exact h.right (mem_delE.1 hx).1
  have hlen : (delE L p v c).length + 1 = L.length := by
    have hx := (lookE_some h.srt).1 hl
    have h1 := length_le_of_nodup (l := (⟨p, v, c, n⟩ : Ent) :: delE L p v c) (m := L) (List.nodup_cons.2 ⟨fun hx => (mem_delE.1 hx).2 ⟨rfl, rfl, rfl⟩, (delE_srt h.srt p v c).nodup⟩) fun y hy => by
      rcases List.mem_cons.1 hy with rfl | hy
      · exact hx
      · exact (mem_delE.1 hy).1
    have h2 := length_le_of_nodup (l := L) (m := (⟨p, v, c, n⟩ : Ent) :: delE L p v c) h.srt.nodup fun y hy => by
      by_cases hk' : y.p = p ∧ y.v = v ∧ y.c = c
      · rw [h.srt.inj hy hx hk']; simp
      · exact List.mem_cons_of_mem _ (mem_delE.2 ⟨hy, hk'⟩)
    simp only [List.length_cons] at h1 h2
    omega
  have hc : cntU s' = (delE L p v c).length := by
    have hn : ((usedL s').map fun i => (s' i).ent).Nodup := by
      rw [List.nodup_iff_pairwise_ne, List.pairwise_map]
      refine List.Pairwise.imp_of_mem ?_ (List.nodup_iff_pairwise_ne.1 (usedL_nodup s'))
      intro i j hi hj hne heq
      obtain ⟨i1, i2⟩ := mem_usedL.1 hi
      obtain ⟨j1, j2⟩ := mem_usedL.1 hj
      exact hne (hd.apart i j i1 j1 i2 j2 (congrArg Ent.p heq) (congrArg Ent.v heq) (congrArg Ent.c heq))
    have h1 := length_le_of_nodup hn (m := delE L p v c) fun x hx => by
      obtain ⟨i, hi, rfl⟩ := List.mem_map.1 hx
      obtain ⟨i1, i2⟩ := mem_usedL.1 hi
      refine (hmem _).2 ?_
      rw [slot_ent i2]
      exact ⟨i2, i, i1, rfl⟩
    have h2 := length_le_of_nodup (delE_srt h.srt p v c).nodup (m := (usedL s').map fun i => (s' i).ent) fun x hx => by
      obtain ⟨hu, i, hi, hix⟩ := (hmem x).1 hx
      exact List.mem_map.2 ⟨i, mem_usedL.2 ⟨hi, by rw [hix]; rfl⟩, by rw [hix]; rfl⟩
    rw [List.length_map] at h1 h2
    unfold cntU; omega
  have hlL := h.len
  have hf := h.inv.fits
  exact ⟨⟨own, hd.zero, hright, by rw [hc]; omega, by omega, h.inv.cap⟩, delE_srt h.srt p v c, hmem⟩
end Go.Proofs.YtcablikikkmfjaaGreat
end

section
/- Package conns: the table's functions, said of a list of entries. -/
set_option linter.unusedVariables false
set_option linter.unusedSimpArgs false
namespace Go.Proofs.YtcablikikkmfjaaGreat
open Go.Vc Go.RowKit
theorem get_tabL {b : Nat} {s : Nat → Slot} {len room : Int} {L : List Ent} (p v c : Int) {w : World} (ht : Own w b (encT s len room) 244) (hT : TabI s len room L) :
    CV Tryz.prog 111 #[.pointer (some ⟨b, 0, none⟩), .agg #[.int .i64 p, .int .i64 v, .int .i64 c]] w fun x w1 => x = .tuple #[.int .i64 ((lookE L p v c).getD 0), .bool (lookE L p v c).isSome] ∧ Step No w w1 := by
  have := get_tab p v c ht hT.inv
  rwa [hT.val] at this
theorem atE_128 {e : Nat} (he : e < 128) : atE e 128 = e := by unfold atE; omega
theorem DropI.lt {s : Nat → Slot} {e k : Nat} (h : DropI s e k) (he : e < 128) (hk : k ≤ 128) (hu : (s (atE e k)).used = true) : k < 128 := by
  rcases Nat.lt_or_eq_of_le hk with h1 | rfl
  · exact h1
  · rw [atE_128 he, h.lin.free] at hu; cases hu
end Go.Proofs.YtcablikikkmfjaaGreat
end

section
/- The kit's contract for slices.SortFunc, laid at this program's slots (printed by the kit's own tool). -/
namespace Go.Proofs
open Go.Shelf
end Go.Proofs
end

section
/- The calculus' twenty-first part: drawn regions whose values are settled, and what is drawn only grows: for calls into the kit's sort. -/
set_option linter.unusedVariables false
set_option linter.unusedSimpArgs false
namespace Go.Vc
open Go.RowKit
/-- Old blocks are as they were, and no fewer were drawn. -/
def GR (w w' : World) : Prop := Step No w w' ∧ w.drawn ≤ w'.drawn
theorem GR.refl (w : World) : GR w w := ⟨Step.refl _ _, Nat.le_refl _⟩
theorem GR.trans {w w' w'' : World} (h : GR w w') (k : GR w' w'') : GR w w'' := ⟨h.1.trans k.1, Nat.le_trans h.2 k.2⟩
theorem GR.drew (w : World) : GR w w.drew := ⟨drew_step w, Nat.le_succ _⟩
theorem New.drawn {w w' : World} {b : Nat} {o : Obj} (h : New w w' b o) : w'.drawn = w.drawn := by
  obtain ⟨_, rfl⟩ := h
  rfl
section
variable {r : Option Nat} {n : Nat} {ds : List Deferred} {P : Program} {ops : Array Oper} {Q : Exit → Act → World → Prop} {l : List (Nat × Value)} {w : World}
end
end Go.Vc
end

section
/- How keys lie to each other; the sort. -/
set_option linter.unusedVariables false
set_option linter.unusedSimpArgs false
set_option maxRecDepth 100000
set_option maxHeartbeats 4000000
namespace Go.Proofs.YtcablikikkmfjaaGreat
open Go.Vc Go.RowKit

end Go.Proofs.YtcablikikkmfjaaGreat
end

section
/- The calculus' tenth part: append. -/
set_option linter.unusedVariables false
set_option linter.unusedSimpArgs false
namespace Go.Vc
open Go.RowKit
section
variable {r : Option Nat} {n : Nat} {ds : List Deferred} {P : Program} {ops : Array Oper} {Q : Exit → Act → World → Prop} {l : List (Nat × Value)} {w : World} {i : Nat} {K : List (Nat × Value) → World → Prop}
/-- What append asks of an element's type: its cells, its bytes. -/
def appInfo (P : Program) (e : TypeId) : Option (Nat × Nat) := match P.info? e with
  | some inf => match inf.zero with
    | some z => bif Nat.beq z.cells.size inf.size && Nat.blt 0 inf.size then some (inf.size, inf.bytes) else none
    | none => none
  | none => none
theorem arr2 {α : Type} {a : Array α} {x y : α} (hs : a.size = 2) (h0 : a[0]? = some x) (h1 : a[1]? = some y) : a = #[x, y] := by
  apply Array.ext_getElem?
  intro j
  match j with
  | 0 => simpa using h0
  | 1 => simpa using h1
  | j + 2 => rw [Array.getElem?_eq_none (by omega), Array.getElem?_eq_none (by simp)]
end
end Go.Vc
end

section
/- The calculus' twelfth part: slices as lists: what lies there is told by a list; views, rows of one's own, arrays. -/
set_option linter.unusedVariables false
set_option linter.unusedSimpArgs false
namespace Go.Vc
open Go.RowKit

def iL (k : IntKind) (bs : List Int) : List Value := bs.map (Value.int k)
def iA (k : IntKind) (bs : List Int) : Array Value := (iL k bs).toArray
section
variable {k : IntKind} {bs bs' : List Int}
@[simp] theorem iL_length : (iL k bs).length = bs.length := by simp [iL]
@[simp] theorem iA_size : (iA k bs).size = bs.length := by simp [iA]
theorem iL_get (j : Nat) (h : j < bs.length) : (iL k bs)[j]? = some (.int k (bs.getD j 0)) := by
  simp [iL, List.getD, List.getElem?_eq_getElem h]
theorem iA_get (j : Nat) (h : j < bs.length) : (iA k bs)[j]? = some (.int k (bs.getD j 0)) := by
  rw [← iL_get j h]; simp [iA]
theorem iL_set (j : Nat) (v : Int) : iL k (bs.set j v) = (iL k bs).set j (.int k v) := by simp [iL, List.map_set]
theorem iL_take (j : Nat) : iL k (bs.take j) = (iL k bs).take j := by simp [iL]
theorem iL_drop (j : Nat) : iL k (bs.drop j) = (iL k bs).drop j := by simp [iL]
theorem iL_one : ∀ u ∈ iL k bs, oneC u = true := by
  intro u hu
  obtain ⟨x, _, rfl⟩ := List.mem_map.1 hu
  rfl
theorem iA_set (j : Nat) (v : Int) (h : j < bs.length) : setRow (iA k bs) j [.int k v] = iA k (bs.set j v) := by
  apply Array.ext_getElem?
  intro q
  rw [getElem?_setRow _ _ _ (by simp; omega)]
  simp only [List.length_singleton, iA, iL_set, List.getElem?_toArray]
  rw [List.getElem?_set]
  by_cases hq : q = j
  · subst hq; simp [h]
  · rw [if_neg (by omega), if_neg (fun e => hq e.symm)]
end

/-! ### 1. A view: what lies at a slice's address, all of it below B -/
def Sl (w : World) (B : Nat) (A : Option Addr) (xs : List Value) : Prop :=
  0 < xs.length → ∃ b o, A = some ⟨b, o, none⟩ ∧ b < B ∧ ∀ j u, xs[j]? = some u → w.cell? ⟨b, o + j, none⟩ = some u
section
variable {F : Nat → Prop} {w w' : World} {B B' : Nat} {A : Option Addr} {xs ys : List Value} {P : Program}
theorem Sl.nil : Sl w B A [] := fun h => by simp at h
theorem Sl.step (h : Sl w B A xs) (hs : Step F w w') (hF : ∀ k, k < B → ¬ F k) : Sl w' B A xs := by
  intro h0
  obtain ⟨b, o, hA, hb, hc⟩ := h h0
  exact ⟨b, o, hA, hb, fun j u hu => hs.cell (hF b hb) (hc j u hu)⟩
theorem Sl.no (h : Sl w B A xs) (hs : Step No w w') : Sl w' B A xs := h.step hs fun _ _ => id
theorem Sl.mono (h : Sl w B A xs) (hB : B ≤ B') : Sl w B' A xs := by
  intro h0
  obtain ⟨b, o, hA, hb, hc⟩ := h h0
  exact ⟨b, o, hA, by omega, hc⟩
theorem Sl.cast (h : Sl w B A xs) (e : xs = ys) : Sl w B A ys := e ▸ h
theorem Sl.open (h : Sl w B A xs) (h0 : 0 < xs.length) : ∃ b o, A = some ⟨b, o, none⟩ ∧ b < B := by
  obtain ⟨b, o, hA, hb, _⟩ := h h0
  exact ⟨b, o, hA, hb⟩
theorem Sl.get {b o : Nat} (h : Sl w B (some ⟨b, o, none⟩) xs) (j : Nat) (u : Value) (hu : xs[j]? = some u) : w.cell? ⟨b, o + j, none⟩ = some u := by
  obtain ⟨hlt, _⟩ := List.getElem?_eq_some_iff.1 hu
  obtain ⟨b', o', hA, _, hc⟩ := h (by omega)
  cases hA
  exact hc j u hu
theorem Sl.ld {b o : Nat} {t : TypeId} {u : Value} (h : Sl w B (some ⟨b, o, none⟩) xs) (ht : oneB P t = true) (j : Nat) (hu : xs[j]? = some u) : Loads P t w ⟨b, o + j, none⟩ u := Loads.one ht (h.get j u hu)
theorem Sl.ld0 {b : Nat} {t : TypeId} {u : Value} (h : Sl w B (some ⟨b, 0, none⟩) xs) (ht : oneB P t = true) (j : Nat) (hu : xs[j]? = some u) : Loads P t w ⟨b, j, none⟩ u := by
  have := h.ld ht j hu
  rwa [Nat.zero_add] at this
theorem Sl.sub {b o : Nat} (h : Sl w B (some ⟨b, o, none⟩) xs) (L M : Nat) : Sl w B (some ⟨b, o + L, none⟩) ((xs.drop L).take M) := by
  intro h0
  obtain ⟨b', o', hA, hb, hc⟩ := h (by simp at h0; omega)
  cases hA
  refine ⟨b, o + L, rfl, hb, fun j u hu => ?_⟩
  rw [List.getElem?_take] at hu
  split at hu
  · rw [List.getElem?_drop] at hu
    have := hc (L + j) u hu
    rwa [← Nat.add_assoc] at this
  · cases hu
theorem Own.sl {b : Nat} {c : Array Value} {e : TypeId} (h : Own w b c e) (hB : b < B) : Sl w B (some ⟨b, 0, none⟩) c.toList := by
  intro _
  refine ⟨b, 0, rfl, hB, fun j u hu => ?_⟩
  rw [Nat.zero_add, h.cell]
  simpa using hu
end

theorem Sl.keepB {F : Nat → Prop} {w w' : World} {B b o : Nat} {xs : List Value} (h : Sl w B (some ⟨b, o, none⟩) xs) (hs : Step F w w') (hF : ¬ F b) : Sl w' B (some ⟨b, o, none⟩) xs := by
  intro h0
  obtain ⟨b', o', hA, hb, hc⟩ := h h0
  cases hA
  exact ⟨b, o, rfl, hb, fun j u hu => hs.cell hF (hc j u hu)⟩
theorem Sl.cut {w : World} {B b o o' L H M : Nat} {xs : List Value} (h : Sl w B (some ⟨b, o, none⟩) xs) (ho : (if M = L then o else o + L * 1) = o') (hM : H ≤ M) : Sl w B (some ⟨b, o', none⟩) ((xs.drop L).take (H - L)) := by
  by_cases e : M = L
  · rw [show H - L = 0 by omega, List.take_zero]; exact Sl.nil
  · rw [if_neg e, Nat.mul_one] at ho
    rw [← ho]
    exact h.sub L (H - L)
theorem Sl.take {w : World} {B : Nat} {A : Option Addr} {xs : List Value} (h : Sl w B A xs) (m : Nat) : Sl w B A (xs.take m) := by
  intro h0
  obtain ⟨b, o, hA, hb, hc⟩ := h (by simp at h0; omega)
  exact ⟨b, o, hA, hb, fun j u hu => hc j u (by rw [List.getElem?_take] at hu; split at hu <;> simp_all)⟩
theorem Sl.takeI {w : World} {B : Nat} {A : Option Addr} {k : IntKind} {bs : List Int} (h : Sl w B A (iL k bs)) (m : Nat) : Sl w B A (iL k (bs.take m)) := by rw [iL_take]; exact h.take m
theorem Sl.cutI {w : World} {B b o o' L H M : Nat} {k : IntKind} {bs : List Int} (h : Sl w B (some ⟨b, o, none⟩) (iL k bs)) (ho : (if M = L then o else o + L * 1) = o') (hM : H ≤ M) : Sl w B (some ⟨b, o', none⟩) (iL k ((bs.drop L).take (H - L))) := by
  rw [iL_take, iL_drop]; exact h.cut ho hM
theorem tdiv_nat (a c : Nat) : ((a : Int).tdiv (c : Int)) = ((a / c : Nat) : Int) := (Int.ofNat_tdiv a c).symm
theorem tmod_nat (a c : Nat) : ((a : Int).tmod (c : Int)) = ((a % c : Nat) : Int) := (Int.ofNat_tmod a c).symm

/-! ### 2. A row of one's own, of elements of one cell -/
def Rw (w : World) (base : Nat) (e : TypeId) (A : Option Addr) (n c : Nat) (xs : List Value) : Prop := w.ownsRow base e 1 (.slice A n c) n xs
section
variable {F : Nat → Prop} {w w' w0 : World} {B base base' n n' c c' : Nat} {e : TypeId} {A : Option Addr} {xs ys : List Value} {P : Program}
theorem Rw.len (h : Rw w base e A n c xs) : xs.length = n := by have := h.1; omega
theorem Rw.nil (w : World) (base : Nat) (e : TypeId) : Rw w base e none 0 0 [] := World.ownsRow_nil w base e 1
theorem Rw.cast (h : Rw w base e A n c xs) (hn : n = n') (hx : xs = ys) : Rw w base e A n' c ys := by subst hn; subst hx; exact h
theorem Rw.keep (h : Rw w base e A n c xs) (hs : Step F w w') (hF : ∀ k, base ≤ k → ¬ F k) : Rw w' base e A n c xs := by
  refine ⟨h.1, ?_⟩
  rcases h.2 with hn | ⟨g, cap, cur, hv, hb, hg, rest⟩
  · exact .inl hn
  · exact .inr ⟨g, cap, cur, hv, hb, (hs.block g (Array.getElem?_eq_some_iff.1 hg).1 (hF g hb)).trans hg, rest⟩
theorem Rw.step (h : Rw w base e A n c xs) (hs : Step F w w') (hF : ∀ k, base ≤ k → ¬ F k) : Rw w' base e A n c xs := h.keep hs hF
theorem Rw.no (h : Rw w base e A n c xs) (hs : Step No w w') : Rw w' base e A n c xs := h.keep hs fun _ _ => id
theorem Rw.low (h : Rw w base e A n c xs) (hb : base' ≤ base) : Rw w base' e A n c xs := by
  refine ⟨h.1, ?_⟩
  rcases h.2 with hn | ⟨g, cap, cur, hv, hb', rest⟩
  · exact .inl hn
  · exact .inr ⟨g, cap, cur, hv, by omega, rest⟩
theorem Rw.cap (h : Rw w base e A n c xs) : n ≤ c := by
  rcases h.2 with ⟨hv, hn⟩ | ⟨g, cap, cur, hv, hb', _, hc, _⟩
  · cases hv; omega
  · cases hv; exact hc
theorem Rw.sl (h : Rw w base e A n c xs) : Sl w w.heap.size A xs := by
  intro h0
  rcases h.2 with ⟨hv, hn⟩ | ⟨g, cap, cur, hv, hb', hg, _, _, _, ht⟩
  · have := h.1; omega
  · cases hv
    refine ⟨g, 0, rfl, (Array.getElem?_eq_some_iff.1 hg).1, fun j u hu => ?_⟩
    rw [Nat.zero_add, (show Own w g cur e from hg).cell, ← ht] at *
    rw [List.getElem?_take] at hu
    split at hu
    · simpa using hu
    · cases hu
/-- A row that isn't empty has a block. -/
theorem Rw.open (h : Rw w base e A n c xs) (h0 : 0 < n) : ∃ g cur, A = some ⟨g, 0, none⟩ ∧ base ≤ g ∧ g < w.heap.size ∧ Own w g cur e ∧ cur.size = c ∧ n ≤ c ∧ c ≤ maxLen ∧ cur.toList.take n = xs := by
  rcases h.2 with ⟨hv, hn⟩ | ⟨g, cap, cur, hv, hb', hg, hc, hm, hs, ht⟩
  · omega
  · cases hv
    exact ⟨g, cur, rfl, hb', (Array.getElem?_eq_some_iff.1 hg).1, hg, by simpa using hs, hc, hm, by simpa using ht⟩
theorem Rw.of_own {g : Nat} {cur : Array Value} (ho : Own w g cur e) (hb : base ≤ g) (hs : cur.size = c) (hn : n ≤ c) (hm : c ≤ maxLen) (ht : cur.toList.take n = xs) : Rw w base e (some ⟨g, 0, none⟩) n c xs := by
  refine ⟨?_, .inr ⟨g, c, cur, rfl, hb, ho, hn, hm, by simpa using hs, by simpa using ht⟩⟩
  rw [← ht]; simp; omega
theorem Rw.of_new {g : Nat} {cur : Array Value} (ho : Own w g cur e) (hb : base ≤ g) (hm : cur.size ≤ maxLen) : Rw w base e (some ⟨g, 0, none⟩) cur.size cur.size cur.toList :=
  Rw.of_own ho hb rfl (Nat.le_refl _) hm (List.take_of_length_le (by simp))
theorem Rw.ld {g j : Nat} {t : TypeId} {u : Value} (h : Rw w base e (some ⟨g, 0, none⟩) n c xs) (ht : oneB P t = true) (hu : xs[j]? = some u) : Loads P t w ⟨g, j, none⟩ u := h.sl.ld0 ht j hu
theorem take_setRow {cur : Array Value} {j n : Nat} {v : Value} (hj : j < n) (hn : n ≤ cur.size) : (setRow cur j [v]).toList.take n = (cur.toList.take n).set j v := by
  apply List.ext_getElem?
  intro q
  rw [List.getElem?_take, List.getElem?_set, List.getElem?_take]
  have hg := getElem?_setRow [v] cur j (by simp; omega) q
  rw [← Array.getElem?_toList] at hg
  by_cases hq : j = q
  · subst hq
    rw [if_pos hj, hg]
    simp
    omega
  · have hc : ¬ (j ≤ q ∧ q < j + [v].length) := by
      show ¬ (j ≤ q ∧ q < j + 1)
      omega
    rw [if_neg hc] at hg
    rw [if_neg hq, hg]
    simp
/-- A store into a row. -/
theorem Rw.put {g j : Nat} {cur : Array Value} {v : Value} (hx : cur.toList.take n = xs) (hw : Wr w w' g (setRow cur j [v]) e) (hb : base ≤ g) (hs : cur.size = c) (hn : n ≤ c) (hm : c ≤ maxLen) (hj : j < n) : Rw w' base e (some ⟨g, 0, none⟩) n c (xs.set j v) :=
  Rw.of_own hw.own hb (by rw [size_setRow]; exact hs) hn hm (by rw [take_setRow hj (by omega), hx])
/-- What an append leaves. -/
theorem Rw.of_row {v : Value} (h : w.ownsRow base e 1 v n xs) : ∃ A c, v = .slice A n c ∧ Rw w base e A n c xs := by
  rcases h.2 with ⟨hv, hn⟩ | ⟨g, cap, cur, hv, hb', _⟩
  · subst hv; subst hn; exact ⟨none, 0, rfl, h⟩
  · subst hv; exact ⟨_, _, rfl, h⟩
theorem Rw.grown (h : Rw w base e A n c xs) (hg : w.grownBy w' (Value.slice A n c).ownBlock) : Step (fun k => base ≤ k) w w' :=
  Step.of_grown hg fun k hk _ => (h.lt k hk).1
end

/-! ### 3. append of a slice that may be nil -/
section
variable {r : Option Nat} {n : Nat} {ds : List Deferred} {P : Program} {ops : Array Oper} {Q : Exit → Act → World → Prop} {l : List (Nat × Value)} {w : World} {i : Nat} {K : List (Nat × Value) → World → Prop}
def appOpS (P : Program) (n : Nat) (ops : Array Oper) (l : List (Nat × Value)) (i : Nat) : Option (Nat × TypeId × Option Addr × Nat × Nat × Option Addr × Nat × Nat) :=
  match theOp ops l i with
  | some { dst := some d, op := .call { callee := .builtin .append, args := ags, argTypes := ts }, .. } =>
    match (ts[0]? : Option TypeId), (ts[1]? : Option TypeId), ((ags.map (evL l))[0]? : Option Value), ((ags.map (evL l))[1]? : Option Value) with
    | some t, some t', some (Value.slice A m c), some (Value.slice A2 m2 c2) => match P.underlying t with
      | some (TypeDesc.slice e) => bif Nat.blt d n && Nat.beq t t' && Nat.beq ts.size 2 && Nat.beq ags.size 2 then some (d, e, A, m, c, A2, m2, c2) else none
      | _ => none
    | _, _, _, _ => none
  | _ => none
theorem run_append_empty {t ty e : TypeId} {inf : TypeInfo} (ht : P.underlying t = some (.slice e)) (hi : P.info? e = some inf) (A A2 : Option Addr) (m c c2 : Nat) (hm : m ≤ c) :
    (Builtin.append_ #[t, t] ty #[.slice A m c, .slice A2 0 c2]).run P w = .ok (.slice A m c) w := by
  have hf : (Builtin.firstCells inf.size 0 (.slice A2 0 c2)).run P w = .ok #[] w := by
    cases A2 <;> simp [Builtin.firstCells, loadCells, loadCellsFrom]
  cases A <;> simp [Builtin.append_, run_underlying ht, sizeOf, typeInfo, hi, Builtin.lenOf, hm, hf, storeCells]

theorem V1_appendS {d e m c m2 c2 bytes : Nat} {A A2 : Option Addr} (h : appOpS P n ops l i = some (d, e, A, m, c, A2, m2, c2)) (hi : appInfo P e = some (1, bytes)) (base B : Nat) (xs news : List Value) (hown : Rw w base e A m c xs)
    (hl : news.length = m2) (hnews : Sl w B A2 news) (h1 : ∀ u ∈ news, oneC u = true) (h63 : m + m2 ≤ maxLen) (hbytes : (m + m2) * bytes ≤ 140737488355328) (hbase : base ≤ w.heap.size)
    (next : ∀ A' c' w', Rw w' base e A' (m + m2) c' (xs ++ news) → Step (fun k => base ≤ k) w w' → K ((d, .slice A' (m + m2) c') :: l) w') : V1 r n ds P ops Q i l w K := by
  unfold appInfo at hi
  split at hi
  · rename_i inf hinf
    split at hi
    · rename_i z hz
      cases hb : Nat.beq z.cells.size inf.size && Nat.blt 0 inf.size with
      | false => rw [hb] at hi; cases hi
      | true =>
        rw [hb] at hi
        simp only [cond_true, Option.some.injEq, Prod.mk.injEq] at hi
        obtain ⟨hsz, hby⟩ := hi
        simp only [Bool.and_eq_true] at hb
        have hzs := Nat.eq_of_beq_eq_true hb.1
        unfold appOpS at h
        split at h
        · rename_i _ d' ags ts ty pos aft gd ho
          split at h
          · rename_i t t' A0 m0 c0 A20 m20 c20 h0 h1' hv hx
            split at h
            · rename_i e' hu
              cases hq : Nat.blt d' n && Nat.beq t t' && Nat.beq ts.size 2 && Nat.beq ags.size 2 with
              | false => rw [hq] at h; cases h
              | true =>
                rw [hq] at h
                simp only [cond_true, Option.some.injEq, Prod.mk.injEq] at h
                obtain ⟨rfl, rfl, rfl, rfl, rfl, rfl, rfl, rfl⟩ := h
                simp only [Bool.and_eq_true] at hq
                obtain ⟨⟨⟨q1, q2⟩, q3⟩, q4⟩ := hq
                have q2 := Nat.eq_of_beq_eq_true q2
                subst q2
                have hts := arr2 (Nat.eq_of_beq_eq_true q3) h0 h1'
                have has := arr2 (by simpa using Nat.eq_of_beq_eq_true q4) hv hx
                rcases Nat.eq_zero_or_pos m20 with hz0 | hpos
                · subst hz0
                  obtain rfl : news = [] := List.eq_nil_of_length_eq_zero hl
                  refine V1_value ho rfl q1 ?_ (next A0 c0 w ((by simpa using hown : Rw w base e' A0 (m0 + 0) c0 (xs ++ []))) (Step.refl _ _))
                  simp only [execOp, resolve, invoke, builtin, Sem.run_bind, Sem.run_pure, Result.andThen_ok, has, hts, run_append_empty hu hinf A0 A20 m0 c0 c20 hown.cap]
                  rfl
                · obtain ⟨b', o', rfl, _⟩ := hnews.open (by omega)
                  obtain ⟨v2, w2, hr, hr1, hr2, _⟩ := run_append_own (P := P) w base t ty e' inf z 1 bytes hu hinf hz hsz hby (by rw [hzs, hsz]) (by omega) _ m0 xs hown ⟨b', o', none⟩ m20 c20 news (by omega) (fun j u hj => by rw [add_none]; exact hnews.get j u hj) (fun u hu => oneC_oneCell (h1 u hu)) h63 hbytes hbase
                  obtain ⟨A', c', rfl, hR⟩ := Rw.of_row hr1
                  refine V1_value ho rfl q1 ?_ (next A' c' w2 hR (hown.grown hr2))
                  simp only [execOp, resolve, invoke, builtin, Sem.run_bind, Sem.run_pure, Result.andThen_ok, has, hts, hr]
            · cases h
          · cases h
        · cases h
    · cases hi
  · cases hi
theorem VL_appendS {d e m c m2 c2 bytes : Nat} {A A2 : Option Addr} (h : appOpS P n ops l i = some (d, e, A, m, c, A2, m2, c2)) (hi' : Nat.blt i ops.size = true) (hi : appInfo P e = some (1, bytes)) (base B : Nat) (xs news : List Value) (hown : Rw w base e A m c xs)
    (hl : news.length = m2) (hnews : Sl w B A2 news) (h1 : ∀ u ∈ news, oneC u = true) (N : Nat) (hN : m + m2 = N) (h63 : N ≤ maxLen) (hbytes : N * bytes ≤ 140737488355328) (hbase : base ≤ w.heap.size)
    (next : ∀ A' c' w', Rw w' base e A' N c' (xs ++ news) → Step (fun k => base ≤ k) w w' → VL r n ds P ops Q (i + 1) ((d, .slice A' N c') :: l) w') : VL r n ds P ops Q i l w := by
  subst hN
  exact VL_of_V1 hi' (V1_appendS h hi base B xs news hown hl hnews h1 h63 hbytes hbase next)
end

/-! ### 4. Rows whose block is known; arrays -/
section
variable {F : Nat → Prop} {w w' w0 : World} {B base base' n n' c c' : Nat} {e : TypeId} {A : Option Addr} {xs ys : List Value} {P : Program} {k : IntKind} {bs bs' : List Int}
theorem Rw.openG {g : Nat} (h : Rw w base e (some ⟨g, 0, none⟩) n c xs) : ∃ cur, base ≤ g ∧ g < w.heap.size ∧ Own w g cur e ∧ cur.size = c ∧ n ≤ c ∧ c ≤ maxLen ∧ cur.toList.take n = xs := by
  rcases h.2 with ⟨hv, hn⟩ | ⟨g, cap, cur, hv, hb', hg, hc, hm, hs, ht⟩
  · cases hv
  · cases hv
    exact ⟨cur, hb', (Array.getElem?_eq_some_iff.1 hg).1, hg, by simpa using hs, hc, hm, by simpa using ht⟩
theorem Rw.keepG {g : Nat} (h : Rw w base e (some ⟨g, 0, none⟩) n c xs) (hs : Step F w w') (hF : ¬ F g) : Rw w' base e (some ⟨g, 0, none⟩) n c xs := by
  obtain ⟨cur, hb, hl, ho, h1, h2, h3, h4⟩ := h.openG
  exact Rw.of_own (ho.step hs hF) hb h1 h2 h3 h4
theorem Rw.putI {g j : Nat} {cur : Array Value} {v : Int} (hx : cur.toList.take n = iL k bs) (hw : Wr w w' g (setRow cur j [.int k v]) e) (hb : base ≤ g) (hs : cur.size = c) (hn : n ≤ c) (hm : c ≤ maxLen) (hj : j < n) : Rw w' base e (some ⟨g, 0, none⟩) n c (iL k (bs.set j v)) := by
  rw [iL_set]; exact Rw.put hx hw hb hs hn hm hj
theorem Rw.ldI {g j : Nat} {t : TypeId} (h : Rw w base e (some ⟨g, 0, none⟩) n c (iL k bs)) (ht : oneB P t = true) (hj : j < n) : Loads P t w ⟨g, j, none⟩ (.int k (bs.getD j 0)) :=
  h.ld ht (iL_get j (by have := h.len; simp at this; omega))
theorem Rw.slI (h : Rw w base e A n c (iL k bs)) : Sl w w.heap.size A (iL k bs) := h.sl
theorem Rw.lenI (h : Rw w base e A n c (iL k bs)) : bs.length = n := by have := h.len; simpa using this
theorem Sl.ldI {b o : Nat} {t : TypeId} (h : Sl w B (some ⟨b, o, none⟩) (iL k bs)) (ht : oneB P t = true) (j : Nat) (hj : j < bs.length) : Loads P t w ⟨b, o + j, none⟩ (.int k (bs.getD j 0)) := h.ld ht j (iL_get j hj)
theorem Own.slI {b : Nat} (h : Own w b (iA k bs) e) (hB : b < B) : Sl w B (some ⟨b, 0, none⟩) (iL k bs) := by simpa [iA] using h.sl hB
theorem Loads.arr1 {b j : Nat} {t : TypeId} (h : Own w b (iA k bs) e) (ht : oneB P t = true) (hj : j < bs.length) : Loads P t w ⟨b, j, none⟩ (.int k (bs.getD j 0)) := Loads.own1 h ht (iA_get j hj)
theorem Loads.arr {b : Nat} {t : TypeId} {N : Nat} (h : Own w b (iA k bs) e) (ht : aggB P t = some N) (hn : bs.length = N) : Loads P t w ⟨b, 0, none⟩ (.agg (iA k bs)) :=
  Loads.own h ht (by simp [hn]) (by rw [Nat.zero_add, ← hn, ← iA_size (k := k)]; simp)
theorem setRow_all {c : Array Value} (h : c.size = bs.length) : setRow c 0 (iA k bs).toList = iA k bs := by
  apply Array.ext_getElem?
  intro q
  rw [getElem?_setRow _ _ _ (by simp [iA]; omega)]
  by_cases hq : q < bs.length
  · rw [if_pos (by simp [iA]; omega)]; simp [iA]
  · rw [if_neg (by simp [iA]; omega), Array.getElem?_eq_none (by omega), Array.getElem?_eq_none (by simp; omega)]
end
section
variable {r : Option Nat} {n : Nat} {ds : List Deferred} {P : Program} {ops : Array Oper} {Q : Exit → Act → World → Prop} {l : List (Nat × Value)} {w : World} {i : Nat} {K : List (Nat × Value) → World → Prop}
def storeOpA (P : Program) (ops : Array Oper) (l : List (Nat × Value)) (i : Nat) : Option (Nat × Nat × Nat × Value) :=
  match theOp ops l i with
  | some { dst := none, op := .store t x y, .. } => match evL l x with
    | .pointer (some ⟨b, o, none⟩) => match P.info? t with
      | some inf => some (inf.size, b, o, evL l y)
      | none => none
    | _ => none
  | _ => none
theorem V1_storeA {b o sz : Nat} {v : Value} {c : Array Value} {e : TypeId} (h : storeOpA P ops l i = some (sz, b, o, v)) (hone : ∀ u ∈ v.cells.toList, oneC u = true) (hv : v.cells.size = sz) (hB : Own w b c e) (hsz : o + sz ≤ c.size) (next : ∀ w1, Wr w w1 b (setRow c o v.cells.toList) e → K l w1) : V1 r n ds P ops Q i l w K := by
  unfold storeOpA at h
  split at h
  · rename_i _ t x y ty pos aft gd ho
    split at h
    · rename_i b' o' hx
      split at h
      · rename_i inf hinf
        simp only [Option.some.injEq, Prod.mk.injEq] at h
        obtain ⟨hs, rfl, rfl, rfl⟩ := h
        obtain ⟨w1, hr, hwr⟩ := run_storeCells (P := P) (o := o') (evL l y).cells.toList 0 w c e hB (by simp; omega) hone
        refine V1_skip ho rfl ?_ (next w1 hwr)
        simp only [execOp, Instr.storeAt, Instr.sureAddr, hx, Sem.run_bind, Sem.run_pure, Result.andThen_ok, storeVar, run_sizeOf hinf, hv, hs, ne_eq, not_true_eq_false, if_false, hr]
      · cases h
    · cases h
  · cases h
theorem VL_storeA {k : IntKind} {bs : List Int} {b sz : Nat} {c : Array Value} {e : TypeId} (h : storeOpA P ops l i = some (sz, b, 0, .agg (iA k bs))) (hi : Nat.blt i ops.size = true) (hv : bs.length = sz) (hB : Own w b c e) (hsz : c.size = sz) (next : ∀ w1, Wr w w1 b (iA k bs) e → VL r n ds P ops Q (i + 1) l w1) : VL r n ds P ops Q i l w :=
  VL_of_V1 hi (V1_storeA h (fun u hu => iL_one (k := k) (bs := bs) u (by simpa [Value.cells, iA] using hu)) (by simp [Value.cells, hv]) hB (by omega) fun w1 hw => next w1 (by
    have := setRow_all (k := k) (bs := bs) (c := c) (by omega)
    simp only [Value.cells] at hw
    rwa [this] at hw))
end
section
variable {r : Option Nat} {n : Nat} {ds : List Deferred} {P : Program} {ops : Array Oper} {Q : Exit → Act → World → Prop} {tbl : List (List Nat)} {m : Nat} {l : List (Nat × Value)} {R : World → World → Prop} {ch : List Nat} {w : World}
theorem VT_slice {k d b o sz len cap : Nat} {lo hi mx : Option Int} {is : List Nat} {kn : List (Nat × Value)} (h : sliceOp P n ops (lkn ops tbl m l kn k) k = some (d, b, o, sz, len, cap, lo, hi, mx)) (hd : dstOf ops k = some d) (hno : mx ≠ none → hi ≠ none) (L H M : Nat)
    (hl : lo.getD 0 = L) (hh : hi.getD len = H) (hm : mx.getD cap = M) (h1 : L ≤ H) (h2 : H ≤ M) (h3 : M ≤ cap) (o' : Nat) (ho' : (if M = L then o else o + L * sz) = o') (N : Nat) (hN : H - L = N) (C : Nat) (hC : M - L = C) (next : VT r n ds P ops Q tbl m l R ch is ((k, .slice (some ⟨b, o', none⟩) N C) :: kn) w) : VT r n ds P ops Q tbl m l R ch (k :: is) kn w := by
  subst hN; subst hC
  exact VT_float _ (fun w' hR => V1_slice h hno L H M hl hh hm h1 h2 h3 o' ho' ⟨⟨d, hd, look_head⟩, Step.refl _ _⟩) next
end
/-! ### 5. Shifts by a variable -/
section
variable {r : Option Nat} {n : Nat} {ds : List Deferred} {P : Program} {ops : Array Oper} {Q : Exit → Act → World → Prop} {l : List (Nat × Value)} {w : World} {i : Nat} {K : List (Nat × Value) → World → Prop}
def shrOp (n : Nat) (ops : Array Oper) (l : List (Nat × Value)) (i : Nat) : Option (Nat × IntKind × Int × Int) :=
  match theOp ops l i with
  | some { dst := some d, op := .binOp .shr _ x y _, .. } => match evL l x, evL l y with
    | .int k a, .int _ b => bif Nat.blt d n then some (d, k, a, b) else none
    | _, _ => none
  | _ => none
theorem V1_shr {d : Nat} {k : IntKind} {x y : Int} (h : shrOp n ops l i = some (d, k, x, y)) (j : Nat) (hy : y = (j : Nat)) (hj : j ≤ k.bits) (next : K ((d, .int k (x.fdiv (2 ^ j))) :: l) w) : V1 r n ds P ops Q i l w K := by
  unfold shrOp at h
  split at h
  · rename_i _ d' t a b u ty pos aft gd ho
    split at h
    · rename_i k' xa yk yb hx hyv
      cases hb : Nat.blt d' n with
      | false => rw [hb] at h; cases h
      | true =>
        rw [hb] at h
        simp only [cond_true, Option.some.injEq, Prod.mk.injEq] at h
        obtain ⟨rfl, rfl, rfl, rfl⟩ := h
        refine V1_value ho rfl hb ?_ next
        subst hy
        have h0 : ¬ (j : Int) < 0 := by omega
        simp [execOp, eqGuard, binOp, Op.shift, hx, hyv, Sem.run_bind, h0, Nat.min_eq_left hj]
    · cases h
  · cases h
end
/-! ### 6. make -/
section
variable {r : Option Nat} {n : Nat} {ds : List Deferred} {P : Program} {ops : Array Oper} {Q : Exit → Act → World → Prop} {l : List (Nat × Value)} {w : World} {i : Nat} {K : List (Nat × Value) → World → Prop}
def mkOp (n : Nat) (ops : Array Oper) (l : List (Nat × Value)) (i : Nat) : Option (Nat × TypeId × Int × Int) :=
  match theOp ops l i with
  | some { dst := some d, op := .makeSlice t x y, .. } => match evL l x, evL l y with
    | .int .i64 a, .int .i64 b => bif Nat.blt d n then some (d, t, a, b) else none
    | _, _ => none
  | _ => none
theorem run_makeSlice {t e : TypeId} {inf : TypeInfo} {k : IntKind} (ht : P.underlying t = some (.slice e)) (hi : P.info? e = some inf) (hz : inf.zero = some (.int k 0)) (hs : inf.size = 1) (m : Nat) (hm : inf.bytes * m ≤ 281474976710656) (hm2 : m ≤ 4611686018427387904) :
    (Instr.makeSlice t (.int .i64 (m : Int)) (.int .i64 (m : Int))).run P w = .ok (.slice (some ⟨w.heap.size, 0, none⟩) m m) (w.alloc (.cells (iA k (List.replicate m 0)) e)) := by
  have hw : IntKind.wrap .i64 (m : Int) = (m : Int) := wrap_i64 _ (by omega) (by omega)
  have hb : ¬ (281474976710656 : Int) < (inf.bytes : Int) * (m : Int) := by
    have h1 : ((inf.bytes * m : Nat) : Int) ≤ 281474976710656 := Int.ofNat_le.2 hm
    rw [Int.natCast_mul] at h1
    omega
  have h0 : ¬ (m : Int) < 0 := by omega
  have hzc : ((Array.range m).map fun x => (Value.int k 0).cells[x % (Value.int k 0).cells.size]!) = iA k (List.replicate m 0) := by
    apply Array.ext
    · simp
    · intro q h1 h2
      simp [Value.cells, iA, iL]
      simp [Nat.mod_one]
  have e1 : decide ((m : Int) < 0) = false := decide_eq_false h0
  have e2 : decide ((inf.bytes : Int) * (m : Int) > 2 ^ 48) = false := decide_eq_false (by rw [show ((2 : Int) ^ 48) = 281474976710656 from rfl]; exact hb)
  have e3 : decide ((m : Int) > (m : Int)) = false := decide_eq_false (by omega)
  have hai : ∀ w : World, (asInt (.int .i64 (m : Int))).run P w = .ok (m : Int) w := fun w => by simp [asInt, asIntOf]
  have hti : (typeInfo e).run P w = .ok inf w := by simp only [typeInfo, program, Sem.run_bind, Sem.run, Result.andThen_ok, hi]; rfl
  have hzv : (zeroValue e).run P w = .ok (.int k 0) w := by simp [zeroValue, typeInfo, program, Sem.run, hi, hz]
  unfold Instr.makeSlice
  simp only [Sem.run_bind, run_underlying' ht, Result.andThen_ok, hai, Sem.run_pure, hti, hw, e1, e2, e3, Bool.false_or, Bool.or_self, Bool.false_eq_true, if_false, run_askRoom, run_sizeOf hi, hs, Int.toNat_natCast, Nat.mul_one]
  by_cases hm0 : m = 0
  · subst hm0
    simp only [if_true, Sem.run_bind, Sem.run_pure, Result.andThen_ok, newRow, newObj, Sem.run]
    rw [show (Array.range 0) = #[] from rfl]
    simp only [Array.map_empty]
    rfl
  · simp only [if_neg hm0, Sem.run_bind, Sem.run_pure, Result.andThen_ok, hzv, newRow, newObj, Sem.run, hzc]
    rfl
theorem V1_make {d t e : TypeId} {k : IntKind} {a b : Int} {bytes : Nat} (h : mkOp n ops l i = some (d, t, a, b)) (ht : P.underlying t = some (.slice e)) (hi : (P.info? e).map (fun i => (i.zero, i.size, i.bytes)) = some (some (.int k 0), 1, bytes)) (m : Nat) (ha : a = (m : Nat)) (hb : b = (m : Nat)) (hm : bytes * m ≤ 281474976710656) (hm2 : m ≤ 4611686018427387904)
    (next : ∀ g w1, New w w1 g (.cells (iA k (List.replicate m 0)) e) → K ((d, .slice (some ⟨g, 0, none⟩) m m) :: l) w1) : V1 r n ds P ops Q i l w K := by
  obtain ⟨inf, hinf, hh⟩ := Option.map_eq_some_iff.1 hi
  simp only [Prod.mk.injEq] at hh
  obtain ⟨hz, hs, hby⟩ := hh
  subst hby; subst ha; subst hb
  unfold mkOp at h
  split at h
  · rename_i _ d' t' x y ty pos aft gd ho
    split at h
    · rename_i xa yb hx hy
      cases hq : Nat.blt d' n with
      | false => rw [hq] at h; cases h
      | true =>
        rw [hq] at h
        simp only [cond_true, Option.some.injEq, Prod.mk.injEq] at h
        obtain ⟨rfl, rfl, rfl, rfl⟩ := h
        refine V1_value ho rfl hq ?_ (next w.heap.size _ ⟨rfl, rfl⟩)
        simp only [execOp, hx, hy, Sem.run_bind, run_makeSlice ht hinf hz hs m hm hm2, Result.andThen_ok, Sem.run_pure]
    · cases h
  · cases h
theorem VL_make {d t e : TypeId} {k : IntKind} {a b : Int} {bytes : Nat} (h : mkOp n ops l i = some (d, t, a, b)) (hi' : Nat.blt i ops.size = true) (ht : P.underlying t = some (.slice e)) (hi : (P.info? e).map (fun i => (i.zero, i.size, i.bytes)) = some (some (.int k 0), 1, bytes)) (m : Nat) (ha : a = (m : Nat)) (hb : b = (m : Nat)) (hm : bytes * m ≤ 281474976710656) (hm2 : m ≤ 4611686018427387904)
    (next : ∀ g w1, New w w1 g (.cells (iA k (List.replicate m 0)) e) → VL r n ds P ops Q (i + 1) ((d, .slice (some ⟨g, 0, none⟩) m m) :: l) w1) : VL r n ds P ops Q i l w :=
  VL_of_V1 hi' (V1_make h ht hi m ha hb hm hm2 next)
theorem Rw.made {w : World} {g e m : Nat} {k : IntKind} (ho : Own w g (iA k (List.replicate m 0)) e) (hm : m ≤ maxLen) : Rw w g e (some ⟨g, 0, none⟩) m m (iL k (List.replicate m 0)) :=
  Rw.of_own ho (Nat.le_refl _) (by simp) (Nat.le_refl _) hm (by rw [List.take_of_length_le (by simp [iA])]; simp [iA])
theorem Own.slSub {w : World} {b B : Nat} {c : Array Value} {e : TypeId} (h : Own w b c e) (hB : b < B) (o m : Nat) : Sl w B (some ⟨b, o, none⟩) ((c.toList.drop o).take m) := by
  have := (h.sl hB).sub o m
  rwa [Nat.zero_add] at this
end
/-! ### 7. copy out of a slice that may be nil -/
def putL {α : Type} (c : List α) (o : Nat) (vs : List α) : List α := c.take o ++ vs ++ c.drop (o + vs.length)
theorem setRow_putL (c : Array Value) (o : Nat) (vs : List Value) (h : o + vs.length ≤ c.size) : (setRow c o vs).toList = putL c.toList o vs := by
  apply List.ext_getElem?
  intro q
  rw [Array.getElem?_toList, getElem?_setRow vs c o h, putL, List.append_assoc]
  by_cases h1 : q < o
  · rw [if_neg (by omega), List.getElem?_append_left (by simp; omega), List.getElem?_take, if_pos h1]; simp
  · rw [List.getElem?_append_right (by simp; omega)]
    have e : (c.toList.take o).length = o := by simp; omega
    rw [e]
    by_cases h2 : q < o + vs.length
    · rw [if_pos ⟨by omega, h2⟩, List.getElem?_append_left (by omega)]
    · rw [if_neg (by omega), List.getElem?_append_right (by omega), List.getElem?_drop]
      simp
      congr 1; omega
theorem iA_putL {k : IntKind} {bs vs : List Int} (o : Nat) (h : o + vs.length ≤ bs.length) : setRow (iA k bs) o (iL k vs) = iA k (putL bs o vs) := by
  apply Array.toList_inj.1
  rw [setRow_putL _ _ _ (by simpa using h)]
  simp [iA, iL, putL]
section
variable {r : Option Nat} {n : Nat} {ds : List Deferred} {P : Program} {ops : Array Oper} {Q : Exit → Act → World → Prop} {l : List (Nat × Value)} {w : World} {i : Nat} {K : List (Nat × Value) → World → Prop}
def copyOpS (P : Program) (n : Nat) (ops : Array Oper) (l : List (Nat × Value)) (i : Nat) : Option (Nat × Nat × Nat × Nat × Option Addr × Nat) :=
  match theOp ops l i with
  | some { dst := some d, op := .call { callee := .builtin .copy, args := ags, argTypes := ts }, .. } =>
    match ((ts[0]?).bind P.underlying : Option TypeDesc), ((ags.map (evL l))[0]? : Option Value), ((ags.map (evL l))[1]? : Option Value) with
    | some (TypeDesc.slice elem), some (Value.slice (some ⟨b, o, none⟩) dl _), some (Value.slice A2 sl _) => match (P.info? elem).map (·.size) with
      | some 1 => bif Nat.blt d n then some (d, b, o, dl, A2, sl) else none
      | _ => none
    | _, _, _ => none
  | _ => none
theorem V1_copyS {d b o dl sl B : Nat} {A2 : Option Addr} {c : Array Value} {e : TypeId} (h : copyOpS P n ops l i = some (d, b, o, dl, A2, sl)) (vs : List Value) (hvs : vs.length = sl) (hle : sl ≤ dl) (hsrc : Sl w B A2 vs) (hone : ∀ v ∈ vs, oneC v = true)
    (hB : Own w b c e) (hsz : o + vs.length ≤ c.size) (next : ∀ w1, Wr w w1 b (setRow c o vs) e → K ((d, .int .i64 (sl : Int)) :: l) w1) : V1 r n ds P ops Q i l w K := by
  unfold copyOpS at h
  split at h
  · rename_i _ d' ags ts ty pos aft gd ho
    split at h
    · rename_i elem b' o' dl' dc A2' sl' sc hu hx hy
      split at h
      · rename_i hsz'
        cases hb : Nat.blt d' n with
        | false => rw [hb] at h; cases h
        | true =>
          rw [hb] at h
          simp only [cond_true, Option.some.injEq, Prod.mk.injEq] at h
          obtain ⟨rfl, rfl, rfl, rfl, rfl, rfl⟩ := h
          obtain ⟨inf, hinf, hs⟩ := Option.map_eq_some_iff.1 hsz'
          obtain ⟨w1, hr, hwr⟩ := run_storeCells (P := P) (b := b') (o := o') vs 0 w c e hB (by omega) hone
          refine V1_value ho rfl hb ?_ (next w1 hwr)
          have hmin : Nat.min sl' dl' = sl' := Nat.min_eq_left hle
          have hfirst : (Builtin.firstCells 1 sl' (.slice A2' sl' sc)).run P w = .ok vs.toArray w := by
            rcases Nat.eq_zero_or_pos sl' with h0 | h0
            · subst h0
              obtain rfl : vs = [] := List.eq_nil_of_length_eq_zero hvs
              cases A2' <;> simp [Builtin.firstCells, loadCells, loadCellsFrom]
            · obtain ⟨b2, o2, rfl, _⟩ := hsrc.open (by omega)
              simp only [Builtin.firstCells]
              refine run_loadCells' (by omega) fun j hj => ?_
              rw [add_none]
              have hj' : j < vs.length := by omega
              rw [List.getElem?_eq_getElem hj']
              exact hsrc.get j _ (List.getElem?_eq_getElem hj')
          obtain ⟨t, ht, hu'⟩ := Option.bind_eq_some_iff.1 hu
          simp only [execOp, resolve, invoke, builtin, Builtin.copy_, Sem.run_bind, Sem.run_pure, Result.andThen_ok, hx, hy, ht, run_underlying' hu', Builtin.lenOf, run_sizeOf hinf, hs, hmin, hfirst, hr, goInt]
      · cases h
    · cases h
  · cases h
theorem VL_copyA {d b o dl sl B : Nat} {A2 : Option Addr} {k : IntKind} {bs vs : List Int} {e : TypeId} (h : copyOpS P n ops l i = some (d, b, o, dl, A2, sl)) (hi : Nat.blt i ops.size = true) (hvs : vs.length = sl) (hle : sl ≤ dl) (hsrc : Sl w B A2 (iL k vs))
    (hB : Own w b (iA k bs) e) (hsz : o + sl ≤ bs.length) (next : ∀ w1, Wr w w1 b (iA k (putL bs o vs)) e → VL r n ds P ops Q (i + 1) ((d, .int .i64 (sl : Int)) :: l) w1) : VL r n ds P ops Q i l w := by
  refine VL_of_V1 hi (V1_copyS h (iL k vs) (by simpa using hvs) hle hsrc iL_one hB (by simp; omega) fun w1 hw => next w1 ?_)
  rwa [iA_putL o (by omega)] at hw
end
/-! ### 8. Arrays are equal -/
theorem Loads.row {w : World} {base e g n c : Nat} {k : IntKind} {bs : List Int} {P : Program} {t : TypeId} (h : Rw w base e (some ⟨g, 0, none⟩) n c (iL k bs)) (ht : aggB P t = some n) : Loads P t w ⟨g, 0, none⟩ (.agg (iA k bs)) := by
  have hl := h.lenI
  refine Loads.cells ht _ (by simp [hl]) fun j hj => ?_
  rw [add_none, iA_get j (by omega)]
  exact h.slI.get j _ (iL_get j (by omega))
section
variable {r : Option Nat} {n : Nat} {ds : List Deferred} {P : Program} {ops : Array Oper} {Q : Exit → Act → World → Prop} {l : List (Nat × Value)} {w : World} {i : Nat}
end
end Go.Vc
end

section
/- More rules for slices: an address of any kind; copy in a region that draws its order. -/
set_option linter.unusedVariables false
set_option linter.unusedSimpArgs false
namespace Go.Vc
open Go.RowKit
section
variable {r : Option Nat} {n : Nat} {ds : List Deferred} {P : Program} {ops : Array Oper} {Q : Exit → Act → World → Prop} {tbl : List (List Nat)} {m : Nat} {l : List (Nat × Value)} {R : World → World → Prop} {ch : List Nat} {w : World} {i : Nat} {K : List (Nat × Value) → World → Prop}
def sliceOpA (P : Program) (n : Nat) (ops : Array Oper) (l : List (Nat × Value)) (i : Nat) : Option (Nat × Option Addr × Nat × Nat × Nat × Option Int × Option Int × Option Int) :=
  match theOp ops l i with
  | some { dst := some d, op := .slice t x lo hi mx, .. } =>
    match optInt l lo, optInt l hi, optInt l mx with
    | some lo, some hi, some mx => match P.underlying t, evL l x with
      | some (.slice elem), .slice A len cap => match (P.info? elem).map (·.size) with
        | some sz => bif Nat.blt d n then some (d, A, sz, len, cap, lo, hi, mx) else none
        | none => none
      | _, _ => none
    | _, _, _ => none
  | _ => none
def movA (A : Option Addr) (b : Bool) (k : Nat) : Option Addr := A.map fun a => bif b then a else a.add k
theorem V1_sliceA {d sz len cap : Nat} {A : Option Addr} {lo hi mx : Option Int} (h : sliceOpA P n ops l i = some (d, A, sz, len, cap, lo, hi, mx)) (hno : mx ≠ none → hi ≠ none) (L H M : Nat)
    (hl : lo.getD 0 = L) (hh : hi.getD len = H) (hm : mx.getD cap = M) (h1 : L ≤ H) (h2 : H ≤ M) (h3 : M ≤ cap) (next : K ((d, .slice (movA A (decide (M = L)) (L * sz)) (H - L) (M - L)) :: l) w) : V1 r n ds P ops Q i l w K := by
  unfold sliceOpA at h
  split at h
  · rename_i _ d' t x lo' hi' mx' ty pos aft gd ho
    split at h
    · rename_i loi hii mxi hlo hhi hmx
      split at h
      · rename_i elem A' len' cap' hu hx
        split at h
        · rename_i sz' hsz
          cases hb : Nat.blt d' n with
          | false => rw [hb] at h; cases h
          | true =>
            rw [hb] at h
            simp only [cond_true, Option.some.injEq, Prod.mk.injEq] at h
            obtain ⟨rfl, rfl, rfl, rfl, rfl, rfl, rfl, rfl⟩ := h
            obtain ⟨inf, hinf, hs⟩ := Option.map_eq_some_iff.1 hsz
            refine V1_value ho rfl hb ?_ next
            simp only [execOp, Instr.sliceAt, Instr.slice, hx, Sem.run_bind, run_underlying' hu, Result.andThen_ok, Sem.run_pure, run_sliceBounds (w := w) (P := P) hlo hhi hmx hno L H M hl hh hm h1 h2 h3, run_sizeOf hinf, hs, add_none, movA]
            cases A' <;> by_cases e : M = L <;> simp [e]
        · cases h
      · cases h
    · cases h
  · cases h
theorem VL_sliceA {d sz len cap : Nat} {A : Option Addr} {lo hi mx : Option Int} (h : sliceOpA P n ops l i = some (d, A, sz, len, cap, lo, hi, mx)) (hi' : Nat.blt i ops.size = true) (hno : mx ≠ none → hi ≠ none) (L H M : Nat)
    (hl : lo.getD 0 = L) (hh : hi.getD len = H) (hm : mx.getD cap = M) (h1 : L ≤ H) (h2 : H ≤ M) (h3 : M ≤ cap) (N : Nat) (hN : H - L = N) (C : Nat) (hC : M - L = C) (next : VL r n ds P ops Q (i + 1) ((d, .slice (movA A (decide (M = L)) (L * sz)) N C) :: l) w) : VL r n ds P ops Q i l w := by
  subst hN; subst hC
  exact VL_of_V1 hi' (V1_sliceA h hno L H M hl hh hm h1 h2 h3 next)
end
end Go.Vc
end

section
/- The rest by a variable. -/
set_option linter.unusedVariables false
set_option linter.unusedSimpArgs false
namespace Go.Vc
open Go.RowKit
section
variable {r : Option Nat} {n : Nat} {ds : List Deferred} {P : Program} {ops : Array Oper} {Q : Exit → Act → World → Prop} {l : List (Nat × Value)} {w : World} {i : Nat} {K : List (Nat × Value) → World → Prop}
end
end Go.Vc
end

section
/- A slice's elements as an array. -/
set_option linter.unusedVariables false
set_option linter.unusedSimpArgs false
namespace Go.Vc
open Go.RowKit
section
variable {r : Option Nat} {n : Nat} {ds : List Deferred} {P : Program} {ops : Array Oper} {Q : Exit → Act → World → Prop} {l : List (Nat × Value)} {w : World} {i : Nat} {K : List (Nat × Value) → World → Prop}
def stapOp (P : Program) (n : Nat) (ops : Array Oper) (l : List (Nat × Value)) (i : Nat) : Option (Nat × Option Addr × Nat × Nat) :=
  match theOp ops l i with
  | some { dst := some d, op := .sliceToArrayPointer t x, .. } => match P.underlying t, evL l x with
    | some (.array N _), .slice A len _ => bif Nat.blt d n then some (d, A, len, N) else none
    | _, _ => none
  | _ => none
theorem V1_stap {d len N : Nat} {A : Option Addr} (h : stapOp P n ops l i = some (d, A, len, N)) (hN : N ≤ len) (next : K ((d, .pointer A) :: l) w) : V1 r n ds P ops Q i l w K := by
  unfold stapOp at h
  split at h
  · rename_i _ d' t x ty pos aft gd ho
    split at h
    · rename_i N' el A' len' cap' hu hx
      cases hb : Nat.blt d' n with
      | false => rw [hb] at h; cases h
      | true =>
        rw [hb] at h
        simp only [cond_true, Option.some.injEq, Prod.mk.injEq] at h
        obtain ⟨rfl, rfl, rfl, rfl⟩ := h
        refine V1_value ho rfl hb ?_ next
        have h0 : ¬ len' < N' := by omega
        simp [execOp, Instr.arrayAt, hx, Sem.run_bind, run_underlying' hu, h0]
    · cases h
  · cases h
theorem VL_stap {d len N : Nat} {A : Option Addr} (h : stapOp P n ops l i = some (d, A, len, N)) (hi : Nat.blt i ops.size = true) (hN : N ≤ len) (next : VL r n ds P ops Q (i + 1) ((d, .pointer A) :: l) w) : VL r n ds P ops Q i l w :=
  VL_of_V1 hi (V1_stap h hN next)
end
/-- The first elements of what lies at a slice's address, as an array. -/
theorem Loads.slArr {w : World} {B b o N : Nat} {k : IntKind} {bs : List Int} {P : Program} {t : TypeId} (h : Sl w B (some ⟨b, o, none⟩) (iL k bs)) (ht : aggB P t = some N) (hn : N ≤ bs.length) : Loads P t w ⟨b, o, none⟩ (.agg (iA k (bs.take N))) := by
  refine Loads.cells ht _ (by simp [Nat.min_eq_left hn]) fun j hj => ?_
  have hj2 : j < bs.length := by omega
  rw [add_none, iA_get j (by rw [List.length_take]; omega), h.get j _ (iL_get j hj2)]
  simp only [List.getD, List.getElem?_take, if_pos hj]
end Go.Vc
end

section
/- Slices of a view whose address is of any kind: the result is a view again. -/
set_option linter.unusedVariables false
set_option linter.unusedSimpArgs false
namespace Go.Vc
open Go.RowKit
theorem Sl.mov {w : World} {B L H M sz : Nat} {A : Option Addr} {xs : List Value} (h : Sl w B A xs) (hM : H ≤ M) : Sl w B (movA A (decide (M = L)) (L * sz)) ((xs.drop (L * sz)).take ((H - L) * sz)) := by
  intro h0
  have h1 : 0 < xs.length := by simp at h0; omega
  obtain ⟨b, o, rfl, hb⟩ := h.open h1
  by_cases e : M = L
  · exfalso
    have : H - L = 0 := by omega
    rw [this, Nat.zero_mul, List.take_zero] at h0
    simp at h0
  · have hm : movA (some ⟨b, o, none⟩) (decide (M = L)) (L * sz) = some ⟨b, o + L * sz, none⟩ := by simp [movA, e, add_none]
    rw [hm]
    exact h.sub (L * sz) ((H - L) * sz) h0 |> fun ⟨b', o', hA, hb', hc⟩ => ⟨b', o', hA, hb', hc⟩
section
variable {r : Option Nat} {n : Nat} {ds : List Deferred} {P : Program} {ops : Array Oper} {Q : Exit → Act → World → Prop} {tbl : List (List Nat)} {m : Nat} {l : List (Nat × Value)} {R : World → World → Prop} {ch : List Nat} {w : World} {i : Nat}
theorem VL_sliceV {d sz len cap B : Nat} {A : Option Addr} {xs : List Value} {lo hi mx : Option Int} (h : sliceOpA P n ops l i = some (d, A, sz, len, cap, lo, hi, mx)) (hi' : Nat.blt i ops.size = true) (hno : mx ≠ none → hi ≠ none) (hA : Sl w B A xs) (L H M : Nat)
    (hl : lo.getD 0 = L) (hh : hi.getD len = H) (hm : mx.getD cap = M) (h1 : L ≤ H) (h2 : H ≤ M) (h3 : M ≤ cap) (N : Nat) (hN : H - L = N) (C : Nat) (hC : M - L = C) (ys : List Value) (hy : (xs.drop (L * sz)).take (N * sz) = ys) (next : ∀ A', Sl w B A' ys → VL r n ds P ops Q (i + 1) ((d, .slice A' N C) :: l) w) : VL r n ds P ops Q i l w := by
  subst hN; subst hC; subst hy
  exact VL_sliceA h hi' hno L H M hl hh hm h1 h2 h3 _ rfl _ rfl (next _ (hA.mov h2))
end
theorem iL_takeV {k : IntKind} (bs : List Int) (N : Nat) : ((iL k bs).drop (0 * 1)).take (N * 1) = iL k (bs.take N) := by rw [iL_take, Nat.zero_mul, Nat.mul_one, List.drop_zero]
end Go.Vc
end

section
/- Rows of one's own whose elements have any number of cells; append to them; views whose block lies between two bounds. -/
set_option linter.unusedVariables false
set_option linter.unusedSimpArgs false
namespace Go.Vc
open Go.RowKit
/-- The block at which an address points. -/
def ownB (A : Option Addr) (k : Nat) : Prop := ∃ a, A = some a ∧ a.block = k
def RwS (w : World) (sz base : Nat) (e : TypeId) (A : Option Addr) (n c : Nat) (xs : List Value) : Prop := w.ownsRow base e sz (.slice A n c) n xs
section
variable {F : Nat → Prop} {w w' w0 : World} {B base base' n n' c c' sz : Nat} {e : TypeId} {A : Option Addr} {xs ys : List Value} {P : Program}
theorem RwS.len (h : RwS w sz base e A n c xs) : xs.length = n * sz := h.1
theorem RwS.nil (w : World) (sz base : Nat) (e : TypeId) : RwS w sz base e none 0 0 [] := World.ownsRow_nil w base e sz
theorem RwS.cast (h : RwS w sz base e A n c xs) (hn : n = n') (hx : xs = ys) : RwS w sz base e A n' c ys := by subst hn; subst hx; exact h
/-- What keeps the row's own block keeps the row. -/
theorem RwS.keepO (h : RwS w sz base e A n c xs) (hs : Step F w w') (hF : ∀ k, ownB A k → ¬ F k) : RwS w' sz base e A n c xs := by
  refine ⟨h.1, ?_⟩
  rcases h.2 with hn | ⟨g, cap, cur, hv, hb, hg, rest⟩
  · exact .inl hn
  · refine .inr ⟨g, cap, cur, hv, hb, (hs.block g (Array.getElem?_eq_some_iff.1 hg).1 (hF g ?_)).trans hg, rest⟩
    cases hv
    exact ⟨_, rfl, rfl⟩
theorem RwS.lt (h : RwS w sz base e A n c xs) (k : Nat) (hk : ownB A k) : base ≤ k ∧ k < w.heap.size := by
  obtain ⟨a, rfl, rfl⟩ := hk
  rcases h.2 with ⟨hv, _⟩ | ⟨g, cap, cur, hv, hb, hg, rest⟩
  · cases hv
  · cases hv; exact ⟨hb, (Array.getElem?_eq_some_iff.1 hg).1⟩
theorem RwS.step (h : RwS w sz base e A n c xs) (hs : Step F w w') (hF : ∀ k, base ≤ k → ¬ F k) : RwS w' sz base e A n c xs := h.keepO hs fun k hk => hF k (h.lt k hk).1
theorem RwS.no (h : RwS w sz base e A n c xs) (hs : Step No w w') : RwS w' sz base e A n c xs := h.step hs fun _ _ => id
theorem RwS.low (h : RwS w sz base e A n c xs) (hb : base' ≤ base) : RwS w sz base' e A n c xs := by
  refine ⟨h.1, ?_⟩
  rcases h.2 with hn | ⟨g, cap, cur, hv, hb', rest⟩
  · exact .inl hn
  · exact .inr ⟨g, cap, cur, hv, by omega, rest⟩
theorem RwS.cap (h : RwS w sz base e A n c xs) : n ≤ c := by
  rcases h.2 with ⟨hv, hn⟩ | ⟨g, cap, cur, hv, hb', _, hc, _⟩
  · cases hv; omega
  · cases hv; exact hc
/-- A view whose block lies between two bounds. -/
def Sl2 (w : World) (lo hi : Nat) (A : Option Addr) (xs : List Value) : Prop :=
  0 < xs.length → ∃ b o, A = some ⟨b, o, none⟩ ∧ lo ≤ b ∧ b < hi ∧ ∀ j u, xs[j]? = some u → w.cell? ⟨b, o + j, none⟩ = some u
theorem Sl2.sl {lo hi : Nat} (h : Sl2 w lo hi A xs) : Sl w hi A xs := fun h0 => by
  obtain ⟨b, o, hA, _, hb, hc⟩ := h h0
  exact ⟨b, o, hA, hb, hc⟩
theorem Sl.sl2 {hi : Nat} (h : Sl w hi A xs) : Sl2 w 0 hi A xs := fun h0 => by
  obtain ⟨b, o, hA, hb, hc⟩ := h h0
  exact ⟨b, o, hA, Nat.zero_le _, hb, hc⟩
theorem Sl2.step {lo hi : Nat} (h : Sl2 w lo hi A xs) (hs : Step F w w') (hF : ∀ k, lo ≤ k → k < hi → ¬ F k) : Sl2 w' lo hi A xs := by
  intro h0
  obtain ⟨b, o, hA, h1, h2, hc⟩ := h h0
  exact ⟨b, o, hA, h1, h2, fun j u hu => hs.cell (hF b h1 h2) (hc j u hu)⟩
theorem Sl2.mono {lo hi lo' hi' : Nat} (h : Sl2 w lo hi A xs) (h1 : lo' ≤ lo) (h2 : hi ≤ hi') : Sl2 w lo' hi' A xs := by
  intro h0
  obtain ⟨b, o, hA, h3, h4, hc⟩ := h h0
  exact ⟨b, o, hA, by omega, by omega, hc⟩
theorem RwS.sl2 (h : RwS w sz base e A n c xs) : Sl2 w base w.heap.size A xs := by
  intro h0
  rcases h.2 with ⟨hv, hn⟩ | ⟨g, cap, cur, hv, hb', hg, _, _, _, ht⟩
  · have := h.1; subst hn; rw [Nat.zero_mul] at this; omega
  · cases hv
    refine ⟨g, 0, rfl, hb', (Array.getElem?_eq_some_iff.1 hg).1, fun j u hu => ?_⟩
    rw [Nat.zero_add, (show Own w g cur e from hg).cell]
    rw [← ht, List.getElem?_take] at hu
    split at hu
    · simpa using hu
    · cases hu
theorem RwS.of_row {v : Value} (h : w.ownsRow base e sz v n xs) : ∃ A c, v = .slice A n c ∧ RwS w sz base e A n c xs := by
  rcases h.2 with ⟨hv, hn⟩ | ⟨g, cap, cur, hv, hb', _⟩
  · subst hv; subst hn; exact ⟨none, 0, rfl, h⟩
  · subst hv; exact ⟨_, _, rfl, h⟩
theorem RwS.grown (h : RwS w sz base e A n c xs) (hg : w.grownBy w' (Value.slice A n c).ownBlock) : Step (ownB A) w w' :=
  Step.of_grown hg fun k hk _ => by
    cases A with
    | none => cases hk
    | some a => simp only [Value.ownBlock, Option.some.injEq] at hk; exact ⟨a, rfl, hk⟩
theorem RwS.of_new {g : Nat} {cur : Array Value} (ho : Own w g cur e) (hb : base ≤ g) (hm : n ≤ maxLen) (hs : cur.size = n * sz) : RwS w sz base e (some ⟨g, 0, none⟩) n n cur.toList := by
  refine ⟨by simpa using hs, .inr ⟨g, n, cur, rfl, hb, ho, Nat.le_refl _, hm, hs, ?_⟩⟩
  rw [← hs, ← Array.length_toList, List.take_length]
/-- Rows of two types have two blocks. -/
theorem RwS.apart {sz' base' n' c' : Nat} {e' : TypeId} {A' : Option Addr} {ys : List Value} (h : RwS w sz base e A n c xs) (h' : RwS w sz' base' e' A' n' c' ys) (hne : e ≠ e') (k : Nat) (hk : ownB A k) : ¬ ownB A' k := by
  rintro ⟨a', rfl, rfl⟩
  obtain ⟨a, rfl, hab⟩ := hk
  rcases h.2 with ⟨hv, _⟩ | ⟨g, cap, cur, hv, _, hg, _⟩
  · cases hv
  · rcases h'.2 with ⟨hv', _⟩ | ⟨g', cap', cur', hv', _, hg', _⟩
    · cases hv'
    · cases hv; cases hv'
      simp only at hab
      subst hab
      rw [hg] at hg'
      simp only [Option.some.injEq, Obj.cells.injEq] at hg'
      exact hne hg'.2.1
theorem Rw.toS (h : Rw w base e A n c xs) : RwS w 1 base e A n c xs := h
theorem RwS.to1 (h : RwS w 1 base e A n c xs) : Rw w base e A n c xs := h
end
section
variable {r : Option Nat} {n : Nat} {ds : List Deferred} {P : Program} {ops : Array Oper} {Q : Exit → Act → World → Prop} {l : List (Nat × Value)} {w : World} {i : Nat} {K : List (Nat × Value) → World → Prop}
theorem V1_appendZ {d e m c m2 c2 sz bytes : Nat} {A A2 : Option Addr} (h : appOpS P n ops l i = some (d, e, A, m, c, A2, m2, c2)) (hi : appInfo P e = some (sz, bytes)) (base B : Nat) (xs news : List Value) (hown : RwS w sz base e A m c xs)
    (hl : news.length = m2 * sz) (hnews : Sl w B A2 news) (h1 : ∀ u ∈ news, oneC u = true) (h63 : m + m2 ≤ maxLen) (hbytes : (m + m2) * bytes ≤ 140737488355328) (hbase : base ≤ w.heap.size)
    (next : ∀ A' c' w', RwS w' sz base e A' (m + m2) c' (xs ++ news) → Step (ownB A) w w' → K ((d, .slice A' (m + m2) c') :: l) w') : V1 r n ds P ops Q i l w K := by
  unfold appInfo at hi
  split at hi
  · rename_i inf hinf
    split at hi
    · rename_i z hz
      cases hb : Nat.beq z.cells.size inf.size && Nat.blt 0 inf.size with
      | false => rw [hb] at hi; cases hi
      | true =>
        rw [hb] at hi
        simp only [cond_true, Option.some.injEq, Prod.mk.injEq] at hi
        obtain ⟨hsz, hby⟩ := hi
        simp only [Bool.and_eq_true] at hb
        have hzs := Nat.eq_of_beq_eq_true hb.1
        have hszp := blt_spec hb.2
        unfold appOpS at h
        split at h
        · rename_i _ d' ags ts ty pos aft gd ho
          split at h
          · rename_i t t' A0 m0 c0 A20 m20 c20 h0 h1' hv hx
            split at h
            · rename_i e' hu
              cases hq : Nat.blt d' n && Nat.beq t t' && Nat.beq ts.size 2 && Nat.beq ags.size 2 with
              | false => rw [hq] at h; cases h
              | true =>
                rw [hq] at h
                simp only [cond_true, Option.some.injEq, Prod.mk.injEq] at h
                obtain ⟨rfl, rfl, rfl, rfl, rfl, rfl, rfl, rfl⟩ := h
                simp only [Bool.and_eq_true] at hq
                obtain ⟨⟨⟨q1, q2⟩, q3⟩, q4⟩ := hq
                have q2 := Nat.eq_of_beq_eq_true q2
                subst q2
                have hts := arr2 (Nat.eq_of_beq_eq_true q3) h0 h1'
                have has := arr2 (by simpa using Nat.eq_of_beq_eq_true q4) hv hx
                rcases Nat.eq_zero_or_pos m20 with hz0 | hpos
                · subst hz0
                  obtain rfl : news = [] := List.eq_nil_of_length_eq_zero (by rw [hl, Nat.zero_mul])
                  refine V1_value ho rfl q1 ?_ (next A0 c0 w ((by simpa using hown : RwS w sz base e' A0 (m0 + 0) c0 (xs ++ []))) (Step.refl _ _))
                  simp only [execOp, resolve, invoke, builtin, Sem.run_bind, Sem.run_pure, Result.andThen_ok, has, hts, run_append_empty hu hinf A0 A20 m0 c0 c20 hown.cap]
                  rfl
                · obtain ⟨b', o', rfl, _⟩ := hnews.open (by rw [hl]; exact Nat.mul_pos hpos (by omega))
                  obtain ⟨v2, w2, hr, hr1, hr2, _⟩ := run_append_own (P := P) w base t ty e' inf z sz bytes hu hinf hz hsz hby (by rw [hzs, hsz]) (by omega) _ m0 xs hown ⟨b', o', none⟩ m20 c20 news hl (fun j u hj => by rw [add_none]; exact hnews.get j u hj) (fun u hu => oneC_oneCell (h1 u hu)) h63 hbytes hbase
                  obtain ⟨A', c', rfl, hR⟩ := RwS.of_row hr1
                  refine V1_value ho rfl q1 ?_ (next A' c' w2 hR (hown.grown hr2))
                  simp only [execOp, resolve, invoke, builtin, Sem.run_bind, Sem.run_pure, Result.andThen_ok, has, hts, hr]
            · cases h
          · cases h
        · cases h
    · cases hi
  · cases hi
theorem VL_appendZ {d e m c m2 c2 sz bytes : Nat} {A A2 : Option Addr} (h : appOpS P n ops l i = some (d, e, A, m, c, A2, m2, c2)) (hi' : Nat.blt i ops.size = true) (hi : appInfo P e = some (sz, bytes)) (base B : Nat) (xs news : List Value) (hown : RwS w sz base e A m c xs)
    (hl : news.length = m2 * sz) (hnews : Sl w B A2 news) (h1 : ∀ u ∈ news, oneC u = true) (N : Nat) (hN : m + m2 = N) (h63 : N ≤ maxLen) (hbytes : N * bytes ≤ 140737488355328) (hbase : base ≤ w.heap.size)
    (next : ∀ A' c' w', RwS w' sz base e A' N c' (xs ++ news) → Step (ownB A) w w' → VL r n ds P ops Q (i + 1) ((d, .slice A' N c') :: l) w') : VL r n ds P ops Q i l w := by
  subst hN
  exact VL_of_V1 hi' (V1_appendZ h hi base B xs news hown hl hnews h1 h63 hbytes hbase next)
end
section
variable {r : Option Nat} {n : Nat} {ds : List Deferred} {P : Program} {ops : Array Oper} {Q : Exit → Act → World → Prop} {tbl : List (List Nat)} {m : Nat} {l : List (Nat × Value)} {R : World → World → Prop} {ch : List Nat} {w : World}
theorem VTc_appendZ {k d e mm c m2 c2 sz bytes : Nat} {A A2 : Option Addr} {is : List Nat} {kn : List (Nat × Value)} (h : appOpS P n ops (lkn ops tbl m l kn k) k = some (d, e, A, mm, c, A2, m2, c2)) (hd : dstOf ops k = some d) (hi : appInfo P e = some (sz, bytes)) (base B : Nat) (xs news : List Value) (hown : RwS w sz base e A mm c xs)
    (hl : news.length = m2 * sz) (hnews : Sl w B A2 news) (h1 : ∀ u ∈ news, oneC u = true) (N : Nat) (hN : mm + m2 = N) (h63 : N ≤ maxLen) (hbytes : N * bytes ≤ 140737488355328) (hbase : base ≤ w.heap.size)
    (hR : ∀ w1, Step (ownB A) w w1 → R w w1)
    (next : ∀ A' c' w', RwS w' sz base e A' N c' (xs ++ news) → Step (ownB A) w w' → VT r n ds P ops Q tbl m l R ch is ((k, .slice A' N c') :: kn) w') : VTc r n ds P ops Q tbl m l R ch k is kn w := by
  subst hN
  exact V1_appendZ h hi base B xs news hown hl hnews h1 h63 hbytes hbase fun A' c' w' hr hs => ⟨hR w' hs, .inl ⟨_, d, hd, look_head, next A' c' w' hr hs⟩⟩
end
end Go.Vc
end

section
/- The calculus' twenty-second part: an element of an array's value; rows and views of elements of several cells, told by a list. -/
set_option linter.unusedVariables false
set_option linter.unusedSimpArgs false
namespace Go.Vc
open Go.RowKit
section
variable {r : Option Nat} {n : Nat} {ds : List Deferred} {P : Program} {ops : Array Oper} {Q : Exit → Act → World → Prop} {l : List (Nat × Value)} {w : World} {i : Nat} {K : List (Nat × Value) → World → Prop}
end
/-- Elements, side by side: enc: the cells of one. -/
def flat {α : Type} (enc : α → List Value) (xs : List α) : List Value := xs.flatMap enc
section
variable {α : Type} {enc : α → List Value} {sz : Nat}
theorem flat_cons (x : α) (xs : List α) : flat enc (x :: xs) = enc x ++ flat enc xs := rfl
theorem flat_append (xs ys : List α) : flat enc (xs ++ ys) = flat enc xs ++ flat enc ys := by simp [flat]
theorem flat_one (x : α) : flat enc [x] = enc x := by simp [flat]
theorem flat_len (h : ∀ x, (enc x).length = sz) (xs : List α) : (flat enc xs).length = xs.length * sz := by
  induction xs with
  | nil => simp [flat]
  | cons x xs ih => rw [flat_cons, List.length_append, ih, h, List.length_cons, Nat.add_mul, Nat.one_mul, Nat.add_comm]
theorem flat_get (h : ∀ x, (enc x).length = sz) (xs : List α) (i c : Nat) (hc : c < sz) : (flat enc xs)[i * sz + c]? = (xs[i]?).bind fun x => (enc x)[c]? := by
  induction xs generalizing i with
  | nil => simp [flat]
  | cons x xs ih =>
    rw [flat_cons]
    cases i with
    | zero => rw [Nat.zero_mul, Nat.zero_add, List.getElem?_append_left (by rw [h]; exact hc)]; simp
    | succ i =>
      rw [List.getElem?_append_right (by rw [h, Nat.add_mul, Nat.one_mul]; omega), h, show (i + 1) * sz + c - sz = i * sz + c by rw [Nat.add_mul, Nat.one_mul]; omega, ih]
      simp
theorem flat_at (h : ∀ x, (enc x).length = sz) {xs : List α} {i : Nat} {x : α} (hx : xs[i]? = some x) (c : Nat) (hc : c < sz) : (flat enc xs)[i * sz + c]? = (enc x)[c]? := by rw [flat_get h xs i c hc, hx]; rfl
theorem flat_one' (h : ∀ x, ∀ u ∈ enc x, oneC u = true) (xs : List α) : ∀ u ∈ flat enc xs, oneC u = true := by
  intro u hu
  obtain ⟨x, _, hx⟩ := List.mem_flatMap.1 hu
  exact h x u hx
variable {w w' : World} {B : Nat} {A : Option Addr} {P : Program} {t : TypeId}
theorem RwS.keepG {F : Nat → Prop} {base e g n c : Nat} {xs : List Value} (h : RwS w sz base e (some ⟨g, 0, none⟩) n c xs) (hs : Step F w w') (hF : ¬ F g) : RwS w' sz base e (some ⟨g, 0, none⟩) n c xs :=
  h.keepO hs fun k hk => by
    obtain ⟨a, h1, h2⟩ := hk
    cases h1
    rw [← h2]; exact hF
/-- An element that lies in a view: its cells, whole or one by one. -/
theorem Sl.flatAgg {b o : Nat} {xs : List α} (h : Sl w B (some ⟨b, o, none⟩) (flat enc xs)) (hs : ∀ x, (enc x).length = sz) {i : Nat} {x : α} (hx : xs[i]? = some x) (off m : Nat) (ht : aggB P t = some m) (hm : off + m ≤ sz) (o' : Nat) (ho : o' = o + i * sz + off) : Loads P t w ⟨b, o', none⟩ (.agg (((enc x).drop off).take m).toArray) := by
  subst ho
  refine Loads.cells ht _ (by simp [hs]; omega) fun j hj => ?_
  rw [add_none]
  have h1 := flat_at hs hx (off + j) (by omega)
  have hlt : off + j < (enc x).length := by rw [hs]; omega
  rw [List.getElem?_eq_getElem hlt] at h1
  have := h.get _ _ h1
  rw [show o + (i * sz + (off + j)) = o + i * sz + off + j by omega] at this
  rw [this]
  simp [hj, List.getElem?_eq_getElem hlt]
theorem Sl.flatOne {b o : Nat} {xs : List α} (h : Sl w B (some ⟨b, o, none⟩) (flat enc xs)) (hs : ∀ x, (enc x).length = sz) {i : Nat} {x : α} (hx : xs[i]? = some x) (off : Nat) {v : Value} (hv : (enc x)[off]? = some v) (hoff : off < sz) (ht : oneB P t = true) (o' : Nat) (ho : o' = o + i * sz + off) : Loads P t w ⟨b, o', none⟩ v := by
  subst ho
  have h1 := flat_at hs hx off hoff
  rw [hv] at h1
  have := h.get _ _ h1
  refine Loads.one ht ?_
  rw [← this]; congr 2; omega
end
end Go.Vc
end

section
/- The kit's sort, at a table's slots, in the calculus' words. -/
set_option linter.unusedVariables false
set_option linter.unusedSimpArgs false
namespace Go.Proofs.YtcablikikkmfjaaGreat
open Go.Vc Go.RowKit Go.Sort Go.Shelf
instance : Inhabited Slot := ⟨noSlot⟩
end Go.Proofs.YtcablikikkmfjaaGreat
end

section
/- Blocks apart by the types of their elements. -/
set_option linter.unusedVariables false
set_option linter.unusedSimpArgs false
namespace Go.Vc
open Go.RowKit
def TyB (w : World) (e : TypeId) (k : Nat) : Prop := ∃ c fr, w.heap[k]? = some (.cells c e fr)
/-- Only blocks of one type, from a base on, may have been turned. -/
def StepT (e : TypeId) (base : Nat) (w w' : World) : Prop := Step (fun k => base ≤ k ∧ TyB w e k) w w'
section
variable {F : Nat → Prop} {w w' w'' w0 : World} {B b base base' n n' c c' sz : Nat} {e e' : TypeId} {A : Option Addr} {xs ys : List Value} {P : Program} {cs : Array Value}
theorem TyB.ne {i : Nat} (h : TyB w e i) (ho : Own w b cs e') (hne : e ≠ e') : ¬ i = b := by
  rintro rfl
  obtain ⟨c, fr, h⟩ := h
  rw [ho] at h
  simp only [Option.some.injEq, Obj.cells.injEq] at h
  exact hne h.2.1.symm
theorem RwS.tyB (h : RwS w sz base e A n c xs) {i : Nat} (hi : ownB A i) : TyB w e i := by
  obtain ⟨a, rfl, rfl⟩ := hi
  rcases h.2 with ⟨hv, _⟩ | ⟨g, cap, cur, hv, _, hg, _⟩
  · cases hv
  · cases hv; exact ⟨_, _, hg⟩
theorem StepT.refl (e : TypeId) (base : Nat) (w : World) : StepT e base w w := Step.refl _ _
theorem StepT.size (h : StepT e base w w') : w.heap.size ≤ w'.heap.size := Step.size h
theorem StepT.trans (h : StepT e base w w') (k : StepT e base w' w'') : StepT e base w w'' :=
  ⟨k.os.trans h.os, k.tape.trans h.tape, k.output.trans h.output, Nat.le_trans h.size k.size, fun i hi hF => by
    have h1 := Step.block h i hi hF
    refine (Step.block k i (Nat.lt_of_lt_of_le hi h.size) fun ⟨h2, c, fr, h3⟩ => hF ⟨h2, c, fr, ?_⟩).trans h1
    rw [← h1]; exact h3⟩
theorem StepT.no (h : StepT e base w w') (k : Step No w' w'') : StepT e base w w'' := Step.trans h k.weak
/-- A step at new blocks. -/
theorem StepT.new (h : StepT e base w w') (k : Step F w' w'') (hF : ∀ i, F i → w.heap.size ≤ i) : StepT e base w w'' :=
  Step.transNew h k fun i hi hG => absurd (hF i hG) (by omega)
theorem StepT.low (h : StepT e base w w') (hb : base' ≤ base) : StepT e base' w w' := Step.mono h fun i hi => ⟨by omega, hi.2⟩
theorem StepT.old (h : StepT e base w w') (hb : w.heap.size ≤ base) : Step No w w' := ⟨h.os, h.tape, h.output, h.size, fun i hi _ => Step.block h i hi fun hF => by omega⟩
/-- All of a row lies below a bound. -/
def UbA (A : Option Addr) (H : Nat) : Prop := ∀ k, ownB A k → k < H
theorem RwS.ub (h : RwS w sz base e A n c xs) : UbA A w.heap.size := fun k hk => (h.lt k hk).2
theorem Rw.ub (h : Rw w base e A n c xs) : UbA A w.heap.size := RwS.ub h
end
section
variable {r : Option Nat} {n : Nat} {ds : List Deferred} {P : Program} {ops : Array Oper} {Q : Exit → Act → World → Prop} {tbl : List (List Nat)} {m : Nat} {l : List (Nat × Value)} {R : World → World → Prop} {ch : List Nat} {w : World} {i : Nat}
end
end Go.Vc
end

section
/- The calculus: blocks' types, rows whose block is told. -/
set_option linter.unusedVariables false
set_option linter.unusedSimpArgs false
namespace Go.Vc
open Go.RowKit
theorem RwS.open {w : World} {base n c sz : Nat} {e : TypeId} {A : Option Addr} {xs : List Value} (h : RwS w sz base e A n c xs) (h0 : 0 < n) : ∃ g cur, A = some ⟨g, 0, none⟩ ∧ base ≤ g ∧ g < w.heap.size ∧ Own w g cur e ∧ cur.size = c * sz ∧ n ≤ c ∧ c ≤ maxLen ∧ cur.toList.take (n * sz) = xs := by
  rcases h.2 with ⟨hv, hn⟩ | ⟨g, cap, cur, hv, hb', hg, hc, hm, hs, ht⟩
  · omega
  · cases hv
    exact ⟨g, cur, rfl, hb', (Array.getElem?_eq_some_iff.1 hg).1, hg, hs, hc, hm, ht⟩
theorem RwS.of_own {w : World} {base n c sz g : Nat} {e : TypeId} {cur : Array Value} {xs : List Value} (ho : Own w g cur e) (hb : base ≤ g) (hs : cur.size = c * sz) (hn : n ≤ c) (hm : c ≤ maxLen) (ht : cur.toList.take (n * sz) = xs) : RwS w sz base e (some ⟨g, 0, none⟩) n c xs := by
  refine ⟨?_, .inr ⟨g, c, cur, rfl, hb, ho, hn, hm, hs, ht⟩⟩
  rw [← ht, List.length_take, Array.length_toList, hs]
  exact Nat.min_eq_left (Nat.mul_le_mul_right sz hn)
/-! ### A row whose block is told -/
structure RowE (w : World) (rb : Nat) (T : TypeId) (xs : List Value) : Prop where
  sl : Sl2 w rb (rb + 1) (some ⟨rb, 0, none⟩) xs
  ty : TyB w T rb
section
variable {w w' : World} {F : Nat → Prop}
theorem TyB.lt {T : TypeId} {k : Nat} (h : TyB w T k) : k < w.heap.size := by obtain ⟨c, fr, h⟩ := h; exact (Array.getElem?_eq_some_iff.1 h).1
theorem TyB.step {T : TypeId} {k : Nat} (h : TyB w T k) (hs : Step F w w') (hF : ¬ F k) : TyB w' T k := by have hl := h.lt; obtain ⟨c, fr, h⟩ := h; exact ⟨c, fr, (hs.block k hl hF).trans h⟩
theorem TyB.two {T T' : TypeId} {k : Nat} (h : TyB w T k) (h' : TyB w T' k) : T = T' := by
  obtain ⟨c, fr, h⟩ := h
  obtain ⟨c', fr', h'⟩ := h'
  rw [h] at h'
  simp only [Option.some.injEq, Obj.cells.injEq] at h'
  exact h'.2.1
theorem Own.tyB {b : Nat} {cs : Array Value} {T : TypeId} (h : Own w b cs T) : TyB w T b := ⟨cs, (0, 0), h⟩
theorem RowE.step {rb : Nat} {T : TypeId} {xs : List Value} (h : RowE w rb T xs) (hs : Step F w w') (hF : ¬ F rb) : RowE w' rb T xs :=
  ⟨h.sl.step hs fun k h1 h2 hk => hF (by rwa [show k = rb by omega] at hk), h.ty.step hs hF⟩
theorem RowE.no {rb : Nat} {T : TypeId} {xs : List Value} (h : RowE w rb T xs) (hs : Step No w w') : RowE w' rb T xs := h.step hs id
theorem RowE.lt {rb : Nat} {T : TypeId} {xs : List Value} (h : RowE w rb T xs) : rb < w.heap.size := h.ty.lt
theorem RowE.of_rw {sz base n c : Nat} {e : TypeId} {A : Option Addr} {xs : List Value} (h : RwS w sz base e A n c xs) (hn : 0 < n) : ∃ rb, A = some ⟨rb, 0, none⟩ ∧ base ≤ rb ∧ RowE w rb e xs := by
  rcases h.2 with ⟨hv, h0⟩ | ⟨g, cap, cur, hv, hb, hg, hr⟩
  · omega
  · cases hv
    refine ⟨g, rfl, hb, ⟨fun h0 => ?_, ⟨_, _, hg⟩⟩⟩
    obtain ⟨b, o, he, hb1, hb2, hc⟩ := (RwS.sl2 h) h0
    simp only [Option.some.injEq, Addr.mk.injEq] at he
    obtain ⟨rfl, rfl, _⟩ := he
    exact ⟨g, 0, rfl, Nat.le_refl _, Nat.lt_succ_self _, hc⟩

end
end Go.Vc
end

section
/- Package conns: what is told of a table is its list, in order. -/
set_option linter.unusedVariables false
set_option linter.unusedSimpArgs false
namespace Go.Proofs.YtcablikikkmfjaaGreat
open Go.Vc Go.RowKit
theorem Loads.slots {w : World} {b : Nat} {s : Nat → Slot} {len room : Int} {T : TypeId} {P : Program} {t : TypeId} (ho : Own w b (encT s len room) T) (ht : aggB P t = some 640) : Loads P t w ⟨b, 0, none⟩ (.agg ((encT s len room).extract 0 640)) := by
  refine Loads.cells ht _ (by simp [encT_size]) fun j hj => ?_
  rw [add_none, ho.cell, Nat.zero_add, Array.getElem?_extract, encT_size, if_pos (by omega), Nat.zero_add]
end Go.Proofs.YtcablikikkmfjaaGreat
end

section
/- Layer 9: All. -/
set_option linter.unusedVariables false
set_option linter.unusedSimpArgs false
set_option maxRecDepth 100000
set_option maxHeartbeats 4000000
namespace Go.Proofs.YtcablikikkmfjaaGreat
open Go.Vc Go.RowKit
end Go.Proofs.YtcablikikkmfjaaGreat
end

section
/- Layer 9: Drop. -/
set_option linter.unusedVariables false
set_option linter.unusedSimpArgs false
set_option maxRecDepth 100000
set_option maxHeartbeats 4000000
namespace Go.Proofs.YtcablikikkmfjaaGreat
open Go.Vc Go.RowKit
end Go.Proofs.YtcablikikkmfjaaGreat
end

section
/- Package conns: a table is its list; no more is told of it. -/
set_option linter.unusedVariables false
set_option linter.unusedSimpArgs false
namespace Go.Proofs.YtcablikikkmfjaaGreat
open Go.Vc Go.RowKit
def Tb (w : World) (b : Nat) (room : Int) (L : List Ent) : Prop := ∃ s len, Own w b (encT s len room) 244 ∧ TabI s len room L
section
variable {w w' : World} {b : Nat} {room : Int} {L : List Ent}
theorem Tb.lt (h : Tb w b room L) : b < w.heap.size := by obtain ⟨s, len, ht, hT⟩ := h; exact ht.lt
theorem Tb.no (h : Tb w b room L) (hs : Step No w w') : Tb w' b room L := by obtain ⟨s, len, ht, hT⟩ := h; exact ⟨s, len, ht.no hs, hT⟩
theorem Tb.step {F : Nat → Prop} (h : Tb w b room L) (hs : Step F w w') (hF : ¬ F b) : Tb w' b room L := by obtain ⟨s, len, ht, hT⟩ := h; exact ⟨s, len, ht.step hs hF, hT⟩
theorem Tb.small (h : Tb w b room L) : L.length ≤ 64 := by
  obtain ⟨s, len, ht, hT⟩ := h
  have h1 := hT.len; have h2 := hT.inv.fits; have h3 := hT.inv.cap
  omega
theorem Tb.srt (h : Tb w b room L) : SrtE L := by obtain ⟨s, len, ht, hT⟩ := h; exact hT.srt
theorem Tb.right (h : Tb w b room L) {x : Ent} (hx : x ∈ L) : rightB x.p x.v x.c = true := by obtain ⟨s, len, ht, hT⟩ := h; exact hT.right hx
theorem Tb.fits (h : Tb w b room L) : (L.length : Int) ≤ room ∧ room ≤ 64 := by
  obtain ⟨s, len, ht, hT⟩ := h
  have h1 := hT.len; have h2 := hT.inv.fits; have h3 := hT.inv.cap
  omega
theorem tput (p v c n : Int) (h : Tb w b room L) : CV Tryz.prog 61 #[.pointer (some ⟨b, 0, none⟩), .agg #[.int .i64 p, .int .i64 v, .int .i64 c], .int .i64 n] w fun x w1 => x = .int .i64 (putK L room p v c) ∧ Tb w1 b room (putE L room p v c n) ∧ Step (Just b) w w1 := by
  obtain ⟨s, len, ht, hT⟩ := h
  refine (put_tab p v c n ht hT.inv).mono ?_
  rintro x w1 ⟨rfl, h1, h2, h3⟩
  exact ⟨by rw [hT.putC], ⟨_, _, h1, hT.put p v c n⟩, h3⟩
theorem tget (p v c : Int) (h : Tb w b room L) : CV Tryz.prog 111 #[.pointer (some ⟨b, 0, none⟩), .agg #[.int .i64 p, .int .i64 v, .int .i64 c]] w fun x w1 => x = .tuple #[.int .i64 ((lookE L p v c).getD 0), .bool (lookE L p v c).isSome] ∧ Step No w w1 := by
  obtain ⟨s, len, ht, hT⟩ := h
  exact get_tabL p v c ht hT
theorem tlen (h : Tb w b room L) : CV Tryz.prog 187 #[.pointer (some ⟨b, 0, none⟩)] w fun x w1 => x = .int .i64 ((L.length : Nat) : Int) ∧ Step No w w1 := by
  obtain ⟨s, len, ht, hT⟩ := h
  rw [← hT.len]
  exact len_tab ht
theorem tnew (m : Int) (w : World) : CV Tryz.prog 53 #[.int .i64 m] w fun x w1 => ∃ b, x = .pointer (some ⟨b, 0, none⟩) ∧ ¬ b < w.heap.size ∧ Tb w1 b (imax 0 (imin m 64)) [] ∧ Step No w w1 := by
  refine (new_any m w).mono ?_
  rintro x w1 ⟨b, rfl, h1, h2, h3⟩
  exact ⟨b, rfl, h1, ⟨_, _, h2, TabI.new m⟩, h3⟩
end
/-! ### Plain -/
end Go.Proofs.YtcablikikkmfjaaGreat
end

section
/- The calculus' maps: a map is a list of keys and values (each key once); making one, looking up, putting, deleting, counting. -/
set_option linter.unusedVariables false
set_option linter.unusedSimpArgs false
namespace Go.Vc
open Go.RowKit

/-! ### 1. Lists of keys and values -/
section
variable {κ ν : Type} [DecidableEq κ]
def getM : List (κ × ν) → κ → Option ν
  | [], _ => none
  | p :: L, k => if p.1 = k then some p.2 else getM L k
def putM : List (κ × ν) → κ → ν → List (κ × ν)
  | [], k, v => [(k, v)]
  | p :: L, k, v => if p.1 = k then (k, v) :: L else p :: putM L k v
def delM : List (κ × ν) → κ → List (κ × ν)
  | [], _ => []
  | p :: L, k => if p.1 = k then L else p :: delM L k
def posM : List (κ × ν) → κ → Nat → Option (Nat × ν)
  | [], _, _ => none
  | p :: L, k, i => if p.1 = k then some (i, p.2) else posM L k (i + 1)
abbrev Keys1 (L : List (κ × ν)) : Prop := (L.map (·.1)).Nodup

theorem posM_get {L : List (κ × ν)} {k : κ} : ∀ i, (posM L k i).map (·.2) = getM L k := by
  induction L with
  | nil => intro i; rfl
  | cons p L ih => intro i; simp only [posM, getM]; split <;> simp [ih]
theorem posM_none {L : List (κ × ν)} {k : κ} {i : Nat} (h : posM L k i = none) : putM (ν := ν) L k = fun v => L ++ [(k, v)] := by
  funext v
  induction L generalizing i with
  | nil => rfl
  | cons p L ih =>
    simp only [posM] at h
    by_cases e : p.1 = k
    · rw [if_pos e] at h; cases h
    · rw [if_neg e] at h; simp only [putM, if_neg e, ih h, List.cons_append]
theorem posM_some {L : List (κ × ν)} {k : κ} {i j : Nat} {v : ν} (h : posM L k i = some (j, v)) : ∃ q, j = i + q ∧ L[q]? = some (k, v) ∧ (∀ u, putM L k u = L.set q (k, u)) ∧ delM L k = L.eraseIdx q := by
  induction L generalizing i with
  | nil => cases h
  | cons p L ih =>
    simp only [posM] at h
    by_cases e : p.1 = k
    · rw [if_pos e] at h
      simp only [Option.some.injEq, Prod.mk.injEq] at h
      obtain ⟨rfl, rfl⟩ := h
      refine ⟨0, rfl, ?_, fun u => ?_, ?_⟩
      · subst e; rfl
      · simp [putM, e]
      · simp [delM, e]
    · rw [if_neg e] at h
      obtain ⟨q, h1, h2, h3, h4⟩ := ih h
      refine ⟨q + 1, by omega, by simpa using h2, fun u => ?_, ?_⟩
      · simp only [putM, if_neg e, h3, List.set_cons_succ]
      · simp only [delM, if_neg e, h4, List.eraseIdx_cons_succ]
theorem mem_putM {L : List (κ × ν)} {k x : κ} {v : ν} : x ∈ (putM L k v).map (·.1) ↔ x = k ∨ x ∈ L.map (·.1) := by
  induction L with
  | nil => simp [putM]
  | cons p L ih =>
    simp only [putM]
    by_cases e : p.1 = k
    · rw [if_pos e]; subst e; simp
    · rw [if_neg e]
      simp only [List.map_cons, List.mem_cons, ih]
      constructor
      · rintro (h | h | h)
        · exact .inr (.inl h)
        · exact .inl h
        · exact .inr (.inr h)
      · rintro (h | h | h)
        · exact .inr (.inl h)
        · exact .inl h
        · exact .inr (.inr h)
theorem Keys1.put {L : List (κ × ν)} (h : Keys1 L) (k : κ) (v : ν) : Keys1 (putM L k v) := by
  induction L with
  | nil => simp [putM, Keys1]
  | cons p L ih =>
    obtain ⟨h1, h2⟩ := List.nodup_cons.1 h
    simp only [putM]
    by_cases e : p.1 = k
    · rw [if_pos e]; subst e; exact List.nodup_cons.2 ⟨h1, h2⟩
    · rw [if_neg e]
      refine List.nodup_cons.2 ⟨fun hm => ?_, ih h2⟩
      rcases mem_putM.1 hm with h | h
      · exact e h
      · exact h1 h
theorem getM_put (L : List (κ × ν)) (k : κ) (v : ν) (x : κ) : getM (putM L k v) x = if k = x then some v else getM L x := by
  induction L with
  | nil => simp [putM, getM]
  | cons p L ih =>
    simp only [putM]
    by_cases e : p.1 = k
    · rw [if_pos e]
      simp only [getM]
      subst e
      split <;> rfl
    · rw [if_neg e]
      simp only [getM, ih]
      by_cases h : p.1 = x
      · rw [if_pos h, if_neg (fun q => e (h.trans q.symm)), if_pos h]
      · rw [if_neg h, if_neg h]
end

/-! ### 2. Types of keys -/
structure KeyT (P : Program) (kt : TypeId) {κ : Type} [DecidableEq κ] (ek : κ → Value) : Prop where
  check : ∀ e k w, (Instr.checkKey e 10000 kt (ek k)).run P w = .ok () w
  find : ∀ {ν : Type} (u : ν → Value) (k : κ) (es : List MapEntry) (L : List (κ × ν)) (w : World), es.map (fun e => (e.key, e.val)) = L.map (fun p => (ek p.1, u p.2)) → (Instr.findKey kt (ek k) es).run P w = .ok ((posM L k 0).map fun q => (q.1, u q.2)) w
  stays : ∀ k w, (Instr.keyThatStays (ek k) (ek k)).run P w = .ok (ek k) w

theorem keyT_int {P : Program} {kt : TypeId} {kk : IntKind} (h : P.underlying kt = some (.int kk)) : KeyT P kt (κ := Int) (fun x => .int kk x) where
  check e k w := by
    unfold Instr.checkKey
    simp only [Sem.run_bind, run_underlying' h, Result.andThen_ok]
    rfl
  find u k es L w he := by
    have key : ∀ (es : List MapEntry) L i, es.map (fun e => (e.key, e.val)) = L.map (fun p => (Value.int kk p.1, u p.2)) → Instr.findNow (.int kk) (.int kk k) es i = some ((posM L k i).map fun q => (q.1, u q.2)) := by
      intro es
      induction es with
      | nil => intro L i h; cases L; rfl; cases h
      | cons e es ih =>
        intro L i h
        cases L with
        | nil => cases h
        | cons p L =>
          simp only [List.map_cons, List.cons.injEq, Prod.mk.injEq] at h
          obtain ⟨⟨h1, h2⟩, h3⟩ := h
          simp only [Instr.findNow, h1, Instr.sameNow, if_true, posM]
          by_cases e : p.1 = k
          · subst e; simp [h2]
          · have : (k == p.1) = false := by simpa using fun q => e q.symm
            simp only [this, if_neg e, ih L (i + 1) h3]
    simp only [Instr.findKey, Sem.run_bind, run_underlying' h, Result.andThen_ok, key es L 0 he, Sem.run_pure]
  stays k w := by
    have : Instr.sameBits 10000 (.int kk k) (.int kk k) = true := by
      unfold Instr.sameBits; simp
    unfold Instr.keyThatStays
    rw [this]
    rfl

/-! ### 3. A map's block -/
def MapL {κ ν : Type} (w : World) (m : Nat) (ek : κ → Value) (u : ν → Value) (L : List (κ × ν)) : Prop :=
  (∃ es ck, w.heap[m]? = some (.map es ck) ∧ es.toList.map (fun e => (e.key, e.val)) = L.map (fun p => (ek p.1, u p.2))) ∧ Keys1 L
section
variable {κ ν : Type} {w w' w1 : World} {m : Nat} {ek : κ → Value} {u : ν → Value} {L : List (κ × ν)} {F : Nat → Prop}
theorem MapL.lt (h : MapL w m ek u L) : m < w.heap.size := by obtain ⟨⟨es, ck, h, _⟩, _⟩ := h; exact (Array.getElem?_eq_some_iff.1 h).1
theorem MapL.keys (h : MapL w m ek u L) : Keys1 L := h.2
theorem MapL.step (h : MapL w m ek u L) (hs : Step F w w') (hF : ¬ F m) : MapL w' m ek u L := by
  have hl := h.lt
  obtain ⟨⟨es, ck, h, h2⟩, h3⟩ := h
  exact ⟨⟨es, ck, (hs.block m hl hF).trans h, h2⟩, h3⟩
theorem MapL.no (h : MapL w m ek u L) (hs : Step No w w') : MapL w' m ek u L := h.step hs id
theorem New.map (h : New w w' m (.map #[] 0)) (ek : κ → Value) (u : ν → Value) : MapL w' m ek u [] := ⟨⟨#[], 0, h.get, rfl⟩, List.nodup_nil⟩
theorem set_step {w : World} {m : Nat} {o o' : Obj} (h : w.heap[m]? = some o) : Step (Just m) w { w with heap := w.heap.setIfInBounds m o' } ∧ ({ w with heap := w.heap.setIfInBounds m o' } : World).heap.size = w.heap.size ∧ ({ w with heap := w.heap.setIfInBounds m o' } : World).heap[m]? = some o' := by
  have hlt : m < w.heap.size := (Array.getElem?_eq_some_iff.1 h).1
  refine ⟨⟨rfl, rfl, rfl, by simp, fun k hk hne => ?_⟩, by simp, by simp [hlt]⟩
  have hne : k ≠ m := hne
  simp [Ne.symm hne]
end

section
variable {κ ν : Type} {r : Option Nat} {n : Nat} {ds : List Deferred} {P : Program} {ops : Array Oper} {Q : Exit → Act → World → Prop} {l : List (Nat × Value)} {w : World} {i : Nat} {K : List (Nat × Value) → World → Prop} {ek : κ → Value} {u : ν → Value} {L : List (κ × ν)}
theorem run_getObj' {w : World} {m : Nat} {es : Array MapEntry} {ck : Nat} (h : w.heap[m]? = some (.map es ck)) : (getObj m).run P w = .ok (.map es ck) w := by simp [getObj, Sem.run, h]
/-! ### 3b. Counting -/
end
section
variable {κ ν : Type} [DecidableEq κ] {r : Option Nat} {n : Nat} {ds : List Deferred} {P : Program} {ops : Array Oper} {Q : Exit → Act → World → Prop} {l : List (Nat × Value)} {w : World} {i : Nat} {K : List (Nat × Value) → World → Prop} {ek : κ → Value} {u : ν → Value} {L : List (κ × ν)}
theorem run_setObj' {w : World} {m : Nat} {es : Array MapEntry} {ck : Nat} (o : Obj) (h : w.heap[m]? = some (.map es ck)) : (setObj m o).run P w = .ok () { w with heap := w.heap.setIfInBounds m o } := by simp [setObj, Sem.run, h]

/-! ### 4. Making one -/
def mkMapOp (n : Nat) (ops : Array Oper) (l : List (Nat × Value)) (i : Nat) : Option Nat :=
  match theOp ops l i with
  | some { dst := some d, op := .makeMap _ none, .. } => bif Nat.blt d n then some d else none
  | _ => none
theorem V1_mkMap {d : Nat} (h : mkMapOp n ops l i = some d) (next : ∀ m w1, New w w1 m (.map #[] 0) → K ((d, .map (some m)) :: l) w1) : V1 r n ds P ops Q i l w K := by
  unfold mkMapOp at h
  split at h
  · rename_i _ d' t ty pos aft gd ho
    cases hb : Nat.blt d' n with
    | false => rw [hb] at h; cases h
    | true =>
      rw [hb] at h
      simp only [cond_true, Option.some.injEq] at h
      subst h
      refine V1_value ho rfl hb ?_ (next w.heap.size _ ⟨rfl, rfl⟩)
      simp only [execOp, Instr.makeMap, Option.map_none, newObj, Sem.run_bind, Sem.run, Result.andThen_ok, Sem.run_pure]
      rfl
  · cases h
theorem VL_mkMap {d : Nat} (h : mkMapOp n ops l i = some d) (hi : Nat.blt i ops.size = true) (next : ∀ m w1, New w w1 m (.map #[] 0) → VL r n ds P ops Q (i + 1) ((d, .map (some m)) :: l) w1) : VL r n ds P ops Q i l w := VL_of_V1 hi (V1_mkMap h next)

/-! ### 5. Looking up -/
def lookOp (P : Program) (n : Nat) (ops : Array Oper) (l : List (Nat × Value)) (i : Nat) : Option (Nat × Nat × TypeId × Value × Value × Bool) :=
  match theOp ops l i with
  | some { dst := some d, op := .lookup t x ix ok, .. } => match P.underlying t, evL l x with
    | some (.map kt et), .map (some m) => match (P.info? et).bind (·.zero) with
      | some z => bif Nat.blt d n then some (d, m, kt, z, evL l ix, ok) else none
      | none => none
    | _, _ => none
  | _ => none
theorem V1_lookup {d m : Nat} {kt : TypeId} {z : Value} {k : κ} {ok : Bool} (h : lookOp P n ops l i = some (d, m, kt, z, ek k, ok)) (hk : KeyT P kt ek) (hm : MapL w m ek u L) (v : Value) (hv : ((getM L k).map u).getD z = v) (next : K ((d, if ok then .tuple #[v, .bool (getM L k).isSome] else v) :: l) w) : V1 r n ds P ops Q i l w K := by
  unfold lookOp at h
  split at h
  · rename_i _ d' t x ix ok' ty pos aft gd ho
    split at h
    · rename_i kt' et m' hu hx
      split at h
      · rename_i z' hz
        cases hb : Nat.blt d' n with
        | false => rw [hb] at h; cases h
        | true =>
          rw [hb] at h
          simp only [cond_true, Option.some.injEq, Prod.mk.injEq] at h
          obtain ⟨rfl, rfl, rfl, rfl, hix, rfl⟩ := h
          obtain ⟨inf, hinf, hzz⟩ := Option.bind_eq_some_iff.1 hz
          obtain ⟨⟨es, ck, hes, heq⟩, _⟩ := hm
          have hzv : (zeroValue et).run P w = .ok z' w := by simp [zeroValue, typeInfo, program, Sem.run, hinf, hzz]
          refine V1_value ho rfl hb ?_ next
          have hp := posM_get (L := L) (k := k) 0
          simp only [execOp, Instr.lookup, Sem.run_bind, run_underlying' hu, Result.andThen_ok, hx, run_getObj' hes, Sem.run_pure, hix, hk.check, hk.find u k es.toList L w heq]
          cases hq : posM L k 0 with
          | none =>
            rw [hq] at hp
            rw [← hp] at hv
            simp only [Option.map_none, Option.getD_none] at hv
            simp only [Option.map_none, Sem.run_bind, hzv, Result.andThen_ok, Sem.run_pure, ← hp, hv, Option.isSome_none]
          | some q =>
            rw [hq] at hp
            rw [← hp] at hv
            simp only [Option.map_some, Option.getD_some] at hv
            simp only [Option.map_some, Sem.run_bind, Result.andThen_ok, Sem.run_pure, ← hp, hv, Option.isSome_some]
      · cases h
    · cases h
  · cases h
theorem VL_lookup {d m : Nat} {kt : TypeId} {z : Value} {k : κ} {ok : Bool} (h : lookOp P n ops l i = some (d, m, kt, z, ek k, ok)) (hi : Nat.blt i ops.size = true) (hk : KeyT P kt ek) (hm : MapL w m ek u L) (v : Value) (hv : ((getM L k).map u).getD z = v) (next : VL r n ds P ops Q (i + 1) ((d, if ok then .tuple #[v, .bool (getM L k).isSome] else v) :: l) w) : VL r n ds P ops Q i l w := VL_of_V1 hi (V1_lookup h hk hm v hv next)

/-! ### 6. Putting -/
structure WrM (w w' : World) (m : Nat) (ek : κ → Value) (u : ν → Value) (L : List (κ × ν)) : Prop where
  map : MapL w' m ek u L
  same : w'.heap.size = w.heap.size
  step : Step (Just m) w w'
def updOp (P : Program) (ops : Array Oper) (l : List (Nat × Value)) (i : Nat) : Option (Nat × TypeId × Value × Value) :=
  match theOp ops l i with
  | some { dst := none, op := .mapUpdate t x k y, .. } => match P.underlying t, evL l x with
    | some (.map kt _), .map (some m) => some (m, kt, evL l k, evL l y)
    | _, _ => none
  | _ => none
theorem run_upd {m : Nat} {t kt et : TypeId} {k : κ} {v : ν} (ht : P.underlying t = some (.map kt et)) (hk : KeyT P kt ek) (hm : MapL w m ek u L) : ∃ w1, (Instr.mapUpdate t (.map (some m)) (ek k) (u v)).run P w = .ok () w1 ∧ WrM w w1 m ek u (putM L k v) := by
  have hmm := hm
  obtain ⟨⟨es, ck, hes, heq⟩, hnd⟩ := hm
  have hf := hk.find u k es.toList L w heq
  cases hq : posM L k 0 with
  | none =>
    rw [hq] at hf
    obtain ⟨s1, s2, s3⟩ := set_step (o' := .map (es.push { key := ek k, val := u v, born := ck }) (ck + 1)) hes
    refine ⟨_, ?_, ?_, s2, s1⟩
    · simp only [Instr.mapUpdate, Sem.run_bind, run_underlying' ht, Result.andThen_ok, run_getObj' hes, hk.check, hf, Option.map_none, run_setObj' _ hes]
    · refine ⟨⟨_, _, s3, ?_⟩, hnd.put k v⟩
      rw [posM_none hq]
      simp [heq]
  | some q =>
    obtain ⟨j, y⟩ := q
    rw [hq] at hf
    obtain ⟨q, h1, h2, h3, _⟩ := posM_some hq
    have hj : j = q := by omega
    subst hj
    have hlen : es.toList.length = L.length := by have := congrArg List.length heq; simpa using this
    have hlt : j < L.length := (List.getElem?_eq_some_iff.1 h2).1
    have hsz : es.size = L.length := by simpa using hlen
    obtain ⟨ej, hej⟩ : ∃ x, es[j]? = some x := ⟨_, Array.getElem?_eq_getElem (by omega)⟩
    have hkey : ej.key = ek k := by
      have h9 := congrArg (fun z => z[j]?) heq
      simp only [List.getElem?_map, h2, Option.map_some, Array.getElem?_toList, hej, Option.some.injEq, Prod.mk.injEq] at h9
      exact h9.1
    obtain ⟨s1, s2, s3⟩ := set_step (o' := .map (es.modify j fun e => { e with key := ek k, val := u v }) ck) hes
    refine ⟨_, ?_, ?_, s2, s1⟩
    · simp only [Instr.mapUpdate, Sem.run_bind, run_underlying' ht, Result.andThen_ok, run_getObj' hes, hk.check, hf, Option.map_some, hej, Option.getD_some, hkey, hk.stays, run_setObj' _ hes]
    · refine ⟨⟨_, _, s3, ?_⟩, hnd.put k v⟩
      rw [h3]
      apply List.ext_getElem?
      intro a
      have h9 := congrArg (fun z => z[a]?) heq
      simp only [List.getElem?_map, Array.getElem?_toList] at h9
      simp only [List.getElem?_map, Array.getElem?_toList, Array.getElem?_modify, List.getElem?_set]
      by_cases e : j = a
      · subst e
        rw [if_pos rfl, if_pos rfl, if_pos hlt, hej]; rfl
      · rw [if_neg e, if_neg e]; exact h9
theorem V1_upd {m : Nat} {kt : TypeId} {k : κ} {v : ν} (h : updOp P ops l i = some (m, kt, ek k, u v)) (hk : KeyT P kt ek) (hm : MapL w m ek u L) (next : ∀ w1, WrM w w1 m ek u (putM L k v) → K l w1) : V1 r n ds P ops Q i l w K := by
  unfold updOp at h
  split at h
  · rename_i _ t x kx y ty pos aft gd ho
    split at h
    · rename_i kt' et m' hu hx
      simp only [Option.some.injEq, Prod.mk.injEq] at h
      obtain ⟨rfl, rfl, h1, h2⟩ := h
      obtain ⟨w1, hr, hw⟩ := run_upd (v := v) (k := k) hu hk hm
      refine V1_skip ho rfl ?_ (next w1 hw)
      simp only [execOp, hx, h1, h2, Sem.run_bind, hr, Result.andThen_ok, Sem.run_pure]
    · cases h
  · cases h
theorem VL_upd {m : Nat} {kt : TypeId} {k : κ} {v : ν} (h : updOp P ops l i = some (m, kt, ek k, u v)) (hi : Nat.blt i ops.size = true) (hk : KeyT P kt ek) (hm : MapL w m ek u L) (next : ∀ w1, WrM w w1 m ek u (putM L k v) → VL r n ds P ops Q (i + 1) l w1) : VL r n ds P ops Q i l w := VL_of_V1 hi (V1_upd h hk hm next)

/-! ### 7. Deleting -/
/-! ### 9. In regions that are walked in one order -/
variable {tbl : List (List Nat)} {mm : Nat} {R : World → World → Prop} {ch : List Nat}
end
end Go.Vc
end

section
/- The calculus: quotients by a variable, calls of a method of an interface's value, calls that leave the world as it is. -/
set_option linter.unusedVariables false
set_option linter.unusedSimpArgs false
namespace Go.Vc
open Go.RowKit
section
variable {r : Option Nat} {n : Nat} {ds : List Deferred} {P : Program} {ops : Array Oper} {Q : Exit → Act → World → Prop} {l : List (Nat × Value)} {w : World} {i : Nat} {K : List (Nat × Value) → World → Prop}
def quoOp (n : Nat) (ops : Array Oper) (l : List (Nat × Value)) (i : Nat) : Option (Nat × IntKind × Int × Int) :=
  match theOp ops l i with
  | some { dst := some d, op := .binOp .quo _ x y _, .. } => match evL l x, evL l y with
    | .int k a, .int k' b => if k = k' then bif Nat.blt d n then some (d, k, a, b) else none else none
    | _, _ => none
  | _ => none
theorem V1_quo {d : Nat} {k : IntKind} {x y : Int} (h : quoOp n ops l i = some (d, k, x, y)) (hy : y ≠ 0) (next : K ((d, .int k (k.wrap (x.tdiv y))) :: l) w) : V1 r n ds P ops Q i l w K := by
  unfold quoOp at h
  split at h
  · rename_i _ d' t a b u ty pos aft gd ho
    split at h
    · rename_i k' xa yk yb hx hyv
      split at h
      · rename_i hk
        subst hk
        cases hb : Nat.blt d' n with
        | false => rw [hb] at h; cases h
        | true =>
          rw [hb] at h
          simp only [cond_true, Option.some.injEq, Prod.mk.injEq] at h
          obtain ⟨rfl, rfl, rfl, rfl⟩ := h
          refine V1_value ho rfl hb ?_ next
          simp [execOp, eqGuard, binOp, Op.intDiv, hx, hyv, Sem.run_bind, hy]
      · cases h
    · cases h
  · cases h
theorem VL_quo {d : Nat} {k : IntKind} {x y : Int} (h : quoOp n ops l i = some (d, k, x, y)) (hi : Nat.blt i ops.size = true) (hy : y ≠ 0) (next : VL r n ds P ops Q (i + 1) ((d, .int k (k.wrap (x.tdiv y))) :: l) w) : VL r n ds P ops Q i l w :=
  VL_of_V1 hi (V1_quo h hy next)
def invOp (P : Program) (n : Nat) (ops : Array Oper) (l : List (Nat × Value)) (i : Nat) : Option (Nat × FuncId × Array Value) :=
  match theOp ops l i with
  | some { dst := some d, op := .call { callee := .invoke rv name, args := ags, .. }, .. } => match evL l rv with
    | .iface t v => match pureVal P (method (P.types.size + Made.depth) t v name) with
      | some (f, x) => bif Nat.blt d n then some (d, f, #[x] ++ ags.map (evL l)) else none
      | none => none
    | _ => none
  | _ => none
theorem V1_invoke {d f : Nat} {args : Array Value} {S : Value → World → Prop} (h : invOp P n ops l i = some (d, f, args))
    (hc : ∀ (args : Array Value) (w : World), (callFunc f args).run P w = .ok (.enter f args) w) (hcall : CV P f args w S) (next : ∀ v w', S v w' → K ((d, v) :: l) w') :
    V1 r n ds P ops Q i l w K := by
  unfold invOp at h
  split at h
  · rename_i _ d' rv name ags ts ty pos aft gd ho
    split at h
    · rename_i t v hrv
      split at h
      · rename_i f' x hm
        cases hb : Nat.blt d' n with
        | false => rw [hb] at h; cases h
        | true =>
          rw [hb] at h
          simp only [cond_true, Option.some.injEq, Prod.mk.injEq] at h
          obtain ⟨rfl, rfl, hargs⟩ := h
          obtain ⟨h1, h2, h3⟩ := theOp_spec ho
          refine V1_run h1 h2 h3 fun a ha => ?_
          have hrun : (execOp (evL l) { dst := some d', op := .call { callee := .invoke rv name, args := ags, argTypes := ts }, type := ty, pos := pos, after := aft, guard := gd }).run P w = .ok (.enter f' args) w := by
            have hme := pureVal_run hm w
            have he : (#[Value.iface t v] ++ Array.map (evL l) ags).extract 1 (#[Value.iface t v] ++ Array.map (evL l) ags).size = Array.map (evL l) ags := by
              apply Array.toList_inj.1
              simp only [Array.toList_extract, Array.toList_append, List.cons_append, List.nil_append, Array.size_append, Array.toList_map, Array.size_map]
              simp [List.extract_eq_take_drop, List.take_of_length_le]
            simp only [execOp, resolve, hrv, Sem.run_bind, Sem.run_pure, Result.andThen_ok, invoke]
            have h0 : (#[Value.iface t v] ++ Array.map (evL l) ags)[0]? = some (Value.iface t v) := by rw [Array.getElem?_append_left (by simp)]; rfl
            simp only [h0, he, callMethod, Sem.run_bind]
            have hpr : Sem.run P program w = .ok P w := rfl
            simp only [hpr, Result.andThen_ok, hme]
            rw [hc, hargs]
          rw [hrun]
          refine ⟨(fun hd => by cases hd), callsIn_Fx ?_⟩
          refine Calls.mono hcall ?_
          rintro e w' ⟨v', rfl, hS⟩
          exact ⟨_, ha.put _ (blt_spec hb) _, next v' w' hS⟩
      · cases h
    · cases h
  · cases h
theorem VL_invoke {d f : Nat} {args : Array Value} {S : Value → World → Prop} (h : invOp P n ops l i = some (d, f, args)) (hi : Nat.blt i ops.size = true)
    (hc : ∀ (args : Array Value) (w : World), (callFunc f args).run P w = .ok (.enter f args) w) (hcall : CV P f args w S) (next : ∀ v w', S v w' → VL r n ds P ops Q (i + 1) ((d, v) :: l) w') :
    VL r n ds P ops Q i l w := VL_of_V1 hi (V1_invoke h hc hcall next)
end
/-- A call that leaves the world as it is. -/
def CE (P : Program) (f : FuncId) (args : Array Value) (v : Value) : Prop := ∀ w, CV P f args w fun x w1 => x = v ∧ w1 = w
theorem CE.no {P : Program} {f : FuncId} {args : Array Value} {v : Value} (h : CE P f args v) (w : World) : CV P f args w fun x w1 => x = v ∧ Step No w w1 := (h w).mono fun x w1 hx => ⟨hx.1, hx.2 ▸ Step.refl _ _⟩
theorem CE.val {P : Program} {f : FuncId} {args : Array Value} {v v' : Value} (h : CE P f args v) (hv : v = v') : CE P f args v' := hv ▸ h
end Go.Vc
end

section
/- Layer 20, plain: contracts, what they cost, buckets, policers' rules. -/
set_option linter.unusedVariables false
set_option linter.unusedSimpArgs false
namespace Go.Proofs.YtcablikikkmfjaaGreat
open Go.Vc Go.RowKit

/-! ### Contracts -/
structure Con where
  kind : Int
  peak : Int
  early : Int
  whole : Int
  burst : Int
  least : Int
def Con.cells (c : Con) : List Value := [.int .i64 c.kind, .int .i64 c.peak, .int .i64 c.early, .int .i64 c.whole, .int .i64 c.burst, .int .i64 c.least]
def spanB (n least : Int) : Bool := decide (n ≥ least) && decide (n ≤ 1099511627776)
def fineC (c : Con) : Bool := (spanB c.peak 1 && spanB c.early 0) &&
  (if c.kind = 2 ∨ c.kind = 3 ∨ c.kind = 4 then spanB c.whole c.peak && spanB c.burst 0 && (c.least == 0)
   else if c.kind = 5 then (c.whole == 0) && (c.burst == 0) && ((c.least == 0) || spanB c.least c.peak)
   else (c.whole == 0) && (c.burst == 0) && (c.least == 0))
def rightC (c : Con) : Int := if 1 ≤ c.kind ∧ c.kind ≤ 7 then (if fineC c = true then 0 else 11) else 12
def perC (s : Int) : Int := if s < 1 then 0 else 1 + 1048575 / s
def upC (n b : Int) : Int := (n + b - 1) / b
def needC (c : Con) : Int := if rightC c = 0 then
    (if c.kind = 1 then perC c.peak else if c.kind = 5 then perC c.least
     else if c.kind = 2 ∨ c.kind = 3 ∨ c.kind = 4 then upC (perC c.whole * 4096 + perC c.peak * c.burst) (c.burst + 4096) else 0) else 0
theorem perC_le (s : Int) : 0 ≤ perC s ∧ perC s ≤ 1048576 := by
  unfold perC
  split
  · omega
  · rename_i h
    have h1 : 0 ≤ (1048575 : Int) / s := Int.ediv_nonneg (by decide) (by omega)
    have h2 : (1048575 : Int) / s ≤ 1048575 := Int.ediv_le_self _ (by decide)
    omega
theorem spanB_iff {n a : Int} : spanB n a = true ↔ a ≤ n ∧ n ≤ 1099511627776 := by
  unfold spanB; rw [Bool.and_eq_true, decide_eq_true_eq, decide_eq_true_eq]
theorem mul_le_of {a b A B : Int} (h0 : 0 ≤ a) (h1 : a ≤ A) (h2 : 0 ≤ b) (h3 : b ≤ B) : 0 ≤ a * b ∧ a * b ≤ A * B :=
  ⟨Int.mul_nonneg h0 h2, Int.mul_le_mul h1 h3 h2 (by omega)⟩
theorem vbr_of {c : Con} (h : rightC c = 0) (hk : c.kind = 2 ∨ c.kind = 3 ∨ c.kind = 4) : (1 ≤ c.peak ∧ c.peak ≤ 1099511627776) ∧ (c.peak ≤ c.whole ∧ c.whole ≤ 1099511627776) ∧ (0 ≤ c.burst ∧ c.burst ≤ 1099511627776) ∧ (0 ≤ c.early ∧ c.early ≤ 1099511627776) := by
  unfold rightC at h
  split at h
  · split at h
    · rename_i h2
      unfold fineC at h2
      rw [if_pos hk] at h2
      simp only [Bool.and_eq_true, spanB_iff] at h2
      obtain ⟨⟨h3, h4⟩, ⟨h5, h6⟩, h7⟩ := h2
      exact ⟨h3, h5, h6, h4⟩
    · cases h
  · cases h
/-- What stands in a contract's quotient is small. -/
theorem vbr_num {c : Con} (h : rightC c = 0) (hk : c.kind = 2 ∨ c.kind = 3 ∨ c.kind = 4) :
    (0 ≤ perC c.whole * 4096 ∧ perC c.whole * 4096 ≤ 4294967296) ∧ (0 ≤ perC c.peak * c.burst ∧ perC c.peak * c.burst ≤ 1152921504606846976) ∧ 0 ≤ c.burst ∧ c.burst ≤ 1099511627776 := by
  obtain ⟨h1, h2, h3, h4⟩ := vbr_of h hk
  have a1 := perC_le c.whole
  have a2 := perC_le c.peak
  exact ⟨by omega, mul_le_of a2.1 a2.2 h3.1 h3.2, h3⟩
theorem up_le {n b : Int} (hn : 0 ≤ n) (hb : 1 ≤ b) : 0 ≤ upC n b ∧ upC n b ≤ n + b := by
  unfold upC
  exact ⟨Int.ediv_nonneg (by omega) (by omega), by have := Int.ediv_le_self b (a := n + b - 1) (by omega); omega⟩
theorem needC_le (c : Con) : 0 ≤ needC c ∧ needC c ≤ 1152930000000000000 := by
  unfold needC
  split
  · rename_i hr
    split
    · have := perC_le c.peak; omega
    · split
      · have := perC_le c.least; omega
      · split
        · rename_i hk
          obtain ⟨h1, h2, h3⟩ := vbr_num hr hk
          have := up_le (n := perC c.whole * 4096 + perC c.peak * c.burst) (b := c.burst + 4096) (by omega) (by omega)
          omega
        · omega
  · omega

theorem rightE {c : Con} (h1 : 1 ≤ c.kind) (h2 : c.kind ≤ 7) : fineC c = (rightC c == 0) := by
  unfold rightC; rw [if_pos ⟨h1, h2⟩]; cases fineC c <;> rfl
theorem right_vbr {c : Con} (hk : c.kind = 2 ∨ c.kind = 3 ∨ c.kind = 4) : (((((spanB c.peak 1) && (spanB c.early 0)) && (spanB c.whole c.peak)) && (spanB c.burst 0)) && (c.least == 0)) = (rightC c == 0) := by
  rw [← rightE (by omega) (by omega)]; unfold fineC; rw [if_pos hk]; simp only [Bool.and_assoc]
theorem right_abr {c : Con} (hk : c.kind = 5) : (((((spanB c.peak 1) && (spanB c.early 0)) && (c.whole == 0)) && (c.burst == 0)) && ((c.least == 0) || (spanB c.least c.peak))) = (rightC c == 0) := by
  rw [← rightE (by omega) (by omega)]; unfold fineC; rw [if_neg (by omega), if_pos hk]; simp only [Bool.and_assoc]
theorem right_cbr {c : Con} (hk : c.kind = 1 ∨ c.kind = 6 ∨ c.kind = 7) : (((((spanB c.peak 1) && (spanB c.early 0)) && (c.whole == 0)) && (c.burst == 0)) && (c.least == 0)) = (rightC c == 0) := by
  rw [← rightE (by omega) (by omega)]; unfold fineC; rw [if_neg (by omega), if_neg (by omega)]; simp only [Bool.and_assoc]
theorem right11 {c : Con} (h1 : 1 ≤ c.kind) (h2 : c.kind ≤ 7) (h : ¬ rightC c = 0) : 11 = rightC c := by
  unfold rightC at h ⊢; rw [if_pos ⟨h1, h2⟩] at h ⊢; split
  · rename_i h3; rw [if_pos h3] at h; exact absurd rfl h
  · rfl
theorem right12 {c : Con} (h : ¬ (1 ≤ c.kind ∧ c.kind ≤ 7)) : 12 = rightC c := by unfold rightC; rw [if_neg h]
def alwaysC (c : Con) : Bool := decide (c.kind = 7) && (rightC c == 0)
theorem always_no {c : Con} (h : ¬ c.kind = 7) : false = alwaysC c := by unfold alwaysC; rw [decide_eq_false h]; rfl
theorem always_yes {c : Con} (h : c.kind = 7) : (rightC c == 0) = alwaysC c := by unfold alwaysC; rw [decide_eq_true h]; rfl
theorem need_no {c : Con} (h : ¬ rightC c = 0) : 0 = needC c := by unfold needC; rw [if_neg h]
theorem need_cbr {c : Con} (h : rightC c = 0) (hk : c.kind = 1) : perC c.peak = needC c := by unfold needC; rw [if_pos h, if_pos hk]
theorem need_abr {c : Con} (h : rightC c = 0) (hk : c.kind = 5) : perC c.least = needC c := by unfold needC; rw [if_pos h, if_neg (by omega), if_pos hk]
theorem need_vbr {c : Con} (h : rightC c = 0) (hk : c.kind = 2 ∨ c.kind = 3 ∨ c.kind = 4) : upC (perC c.whole * 4096 + perC c.peak * c.burst) (c.burst + 4096) = needC c := by unfold needC; rw [if_pos h, if_neg (by omega), if_neg (by omega), if_pos hk]
theorem need_ubr {c : Con} (h : rightC c = 0) (h1 : ¬ c.kind = 1) (h2 : ¬ c.kind = 2) (h3 : ¬ c.kind = 3) (h4 : ¬ c.kind = 4) (h5 : ¬ c.kind = 5) : 0 = needC c := by unfold needC; rw [if_pos h, if_neg (by omega), if_neg (by omega), if_neg (by omega)]

/-! ### Buckets -/
structure Bk where
  step : Int
  early : Int
  next : Int
  any : Bool
def Bk.cells (b : Bk) : List Value := [.int .i64 b.step, .int .i64 b.early, .int .i64 b.next, .bool b.any]
def clT (t : Int) : Int := imax 0 (imin t 1152921504606846976)
theorem clT_le (t : Int) : 0 ≤ clT t ∧ clT t ≤ 1152921504606846976 := by unfold clT imax imin; split <;> split <;> omega
def bkNew (s e : Int) : Bk := ⟨imax 1 (imin s 1152921504606846976), imax 0 (imin e 1152921504606846976), 0, false⟩
structure BkOk (b : Bk) : Prop where
  step : 1 ≤ b.step ∧ b.step ≤ 1152921504606846976
  early : 0 ≤ b.early ∧ b.early ≤ 1152921504606846976
  next : 0 ≤ b.next ∧ b.next ≤ 3458764513820540928
theorem BkOk.new (s e : Int) : BkOk (bkNew s e) := by
  constructor <;> (unfold bkNew; simp only; (try unfold imax imin); first | omega | (split <;> split <;> omega))
def fitsB (b : Bk) (t : Int) : Bool := !b.any || decide (clT t ≥ b.next - b.early)
theorem fits_no {b : Bk} {t : Int} (h : b.any = false) : true = fitsB b t := by unfold fitsB; rw [h]; rfl
def takeB (b : Bk) (t : Int) : Bk := if fitsB b t = true then ⟨b.step, b.early, imax b.next (clT t) + b.step, true⟩ else b
theorem fits_yes {b : Bk} {t : Int} (hb : BkOk b) (h : b.any = true) : decide (imax 0 (imin t 1152921504606846976) ≥ IntKind.wrap .i64 (b.next - b.early)) = fitsB b t := by
  have h1 := hb.early
  have h2 := hb.next
  unfold fitsB clT; rw [h, wrap_i64 (b.next - b.early) (by omega) (by omega)]; rfl
theorem fits_next {b : Bk} {t : Int} (h : BkOk b) (hf : fitsB b t = true) (ha : b.any = true) : b.next ≤ clT t + b.early := by
  unfold fitsB at hf
  rw [ha] at hf
  simp only [Bool.not_true, Bool.false_or, decide_eq_true_eq] at hf
  omega
/-- Untaken, it has no next time. -/
structure BkI (b : Bk) : Prop extends BkOk b where
  zero : b.any = false → b.next = 0
theorem BkI.new (s e : Int) : BkI (bkNew s e) := { BkOk.new s e with zero := fun _ => rfl }
theorem BkI.max_le {b : Bk} {t : Int} (h : BkI b) (hf : fitsB b t = true) : 0 ≤ imax b.next (clT t) ∧ imax b.next (clT t) ≤ 2305843009213693952 := by
  have h1 := clT_le t
  have h2 := h.early
  have h3 := h.next
  cases ha : b.any with
  | false =>
    have := h.zero ha
    unfold imax; split <;> omega
  | true =>
    have := fits_next h.toBkOk hf ha
    unfold imax; split <;> omega
theorem BkI.take {b : Bk} (h : BkI b) (t : Int) : BkI (takeB b t) := by
  unfold takeB
  split
  · rename_i hf
    have h1 := h.max_le hf
    have h2 := h.step
    exact { step := h2, early := h.early, next := ⟨by simp only; omega, by simp only; omega⟩, zero := fun h => by cases h }
  · exact h

/-! ### Rules -/
structure Rl where
  step : Int
  early : Int
  zero : Bool
  tag : Bool
  b : Bk
def rlNew (s e : Int) (z t : Bool) : Rl := ⟨s, e, z, t, bkNew s e⟩
def rulesC (c : Con) : List Rl := if rightC c = 0 then
    (if c.kind = 2 then [rlNew c.peak c.early false false, rlNew c.whole (c.burst + c.early) false false]
     else if c.kind = 3 then [rlNew c.peak c.early false false, rlNew c.whole (c.burst + c.early) true false]
     else if c.kind = 4 then [rlNew c.peak c.early false false, rlNew c.whole (c.burst + c.early) true true]
     else [rlNew c.peak c.early false false]) else []
def askB (clp : Int) (r : Rl) : Bool := !r.zero || (clp == 0)
def vS (t : Int) (v : Int) (r : Rl) : Int := if v = 3 then 3 else if fitsB r.b t = true then v else if r.tag = true then 2 else 3
def verdR (t clp : Int) (l : List Rl) : Int := (l.filter (askB clp)).foldl (vS t) 1
def takeR (t : Int) (r : Rl) : Rl := { r with b := takeB r.b t }
/-- The verdict, and the rules behind it. -/
def asV (v clp : Int) : Int := if v = 2 then 1 else clp
def rulesT (t clp : Int) (l : List Rl) : List Rl := if verdR t clp l = 3 then l else l.map fun r => if askB (asV (verdR t clp l) clp) r = true then takeR t r else r
def polV (always : Bool) (t clp : Int) (l : List Rl) : Int := if verdR t clp l = 1 ∧ always = true ∧ clp = 0 then 2 else verdR t clp l
theorem vS_cases (t v : Int) (r : Rl) (h : v = 1 ∨ v = 2 ∨ v = 3) : vS t v r = 1 ∨ vS t v r = 2 ∨ vS t v r = 3 := by
  unfold vS; split
  · simp
  · split
    · exact h
    · split <;> simp
theorem fold_cases (t : Int) : ∀ (l : List Rl) (v : Int), v = 1 ∨ v = 2 ∨ v = 3 → l.foldl (vS t) v = 1 ∨ l.foldl (vS t) v = 2 ∨ l.foldl (vS t) v = 3
  | [], v, h => h
  | r :: l, v, h => fold_cases t l _ (vS_cases t v r h)
theorem verdR_cases (t clp : Int) (l : List Rl) : verdR t clp l = 1 ∨ verdR t clp l = 2 ∨ verdR t clp l = 3 := fold_cases t _ 1 (.inl rfl)
theorem fold_three (t : Int) : ∀ (l : List Rl), l.foldl (vS t) 3 = 3
  | [] => rfl
  | r :: l => by rw [List.foldl_cons, show vS t 3 r = 3 from by unfold vS; simp]; exact fold_three t l
def RlsI (l : List Rl) : Prop := l.length ≤ 2 ∧ ∀ r ∈ l, BkI r.b
theorem RlsI.rules (c : Con) : RlsI (rulesC c) := by
  have hn : ∀ s e z t, BkI (rlNew s e z t).b := fun s e z t => BkI.new s e
  unfold rulesC
  (repeat' split) <;> refine ⟨by simp, fun r hr => ?_⟩ <;> simp only [List.mem_cons, List.not_mem_nil, or_false] at hr
  all_goals first | (rcases hr with rfl | rfl <;> exact hn _ _ _ _) | (subst hr; exact hn _ _ _ _)
theorem RlsI.take {l : List Rl} (h : RlsI l) (t clp : Int) : RlsI (rulesT t clp l) := by
  unfold rulesT
  split
  · exact h
  · refine ⟨by simpa using h.1, fun r hr => ?_⟩
    obtain ⟨x, hx, rfl⟩ := List.mem_map.1 hr
    have := h.2 x hx
    split
    · exact this.take t
    · exact this
end Go.Proofs.YtcablikikkmfjaaGreat
end

section
/- Layer 20, plain: a node's connections as a list; what is done with it. -/
set_option linter.unusedVariables false
set_option linter.unusedSimpArgs false
namespace Go.Proofs.YtcablikikkmfjaaGreat
open Go.Vc Go.RowKit

structure Cx where
  p : Int
  v : Int
  c : Int
  k : Con
  rs : List Rl
def Cx.e0 (x : Cx) : Ent := ⟨x.p, x.v, x.c, 0⟩
def keyX (p v c : Int) (x : Cx) : Bool := decide (x.p = p ∧ x.v = v ∧ x.c = c)
theorem keyX_iff {p v c : Int} {x : Cx} : keyX p v c x = true ↔ x.p = p ∧ x.v = v ∧ x.c = c := by unfold keyX; rw [decide_eq_true_eq]
def findC (L : List Cx) (p v c : Int) : Option Cx := L.find? (keyX p v c)
def delC (L : List Cx) (p v c : Int) : List Cx := L.filter fun x => !keyX p v c x
def aheadC (L : List Cx) (p v c : Int) : Nat := aheadE (L.map Cx.e0) p v c
def insC (L : List Cx) (x : Cx) : List Cx := L.take (aheadC L x.p x.v x.c) ++ x :: L.drop (aheadC L x.p x.v x.c)
def newR (t clp : Int) (x : Cx) : Cx := { x with rs := rulesT t clp x.rs }
def setC (L : List Cx) (p v c : Int) (f : Cx → Cx) : List Cx := L.map fun x => if keyX p v c x = true then f x else x
def usdL : List Cx → Int → Int
  | [], _ => 0
  | x :: L, i => (if x.p = i then needC x.k else 0) + usdL L i
theorem usdL_append (L M : List Cx) (i : Int) : usdL (L ++ M) i = usdL L i + usdL M i := by
  induction L with
  | nil => simp [usdL]
  | cons x L ih => simp only [List.cons_append, usdL, ih]; omega
theorem usdL_nonneg (L : List Cx) (i : Int) : 0 ≤ usdL L i := by
  induction L with
  | nil => simp [usdL]
  | cons x L ih =>
    simp only [usdL]
    have := (needC_le x.k).1
    split <;> omega
theorem usdL_ins (L : List Cx) (x : Cx) (i : Int) : usdL (insC L x) i = usdL L i + (if x.p = i then needC x.k else 0) := by
  unfold insC
  rw [usdL_append, usdL]
  have := usdL_append (L.take (aheadC L x.p x.v x.c)) (L.drop (aheadC L x.p x.v x.c)) i
  rw [List.take_append_drop] at this
  omega
theorem usdL_mem {L : List Cx} {x : Cx} (h : x ∈ L) : needC x.k ≤ usdL L x.p := by
  induction L with
  | nil => cases h
  | cons y L ih =>
    simp only [usdL]
    rcases List.mem_cons.1 h with rfl | h
    · rw [if_pos rfl]; have := usdL_nonneg L x.p; omega
    · have := ih h
      have := (needC_le y.k).1
      split <;> omega
/-- Each key once. -/
def OneK (L : List Cx) : Prop := L.Pairwise fun x y => ¬ (x.p = y.p ∧ x.v = y.v ∧ x.c = y.c)
theorem OneK.inj {L : List Cx} (h : OneK L) {x y : Cx} (hx : x ∈ L) (hy : y ∈ L) (he : x.p = y.p ∧ x.v = y.v ∧ x.c = y.c) : x = y := by
  induction L with
  | nil => cases hx
  | cons z L ih =>
    obtain ⟨h1, h2⟩ := List.pairwise_cons.1 h
    rcases List.mem_cons.1 hx with ex | mx
    · rcases List.mem_cons.1 hy with ey | my
      · rw [ex, ey]
      · subst ex; exact absurd he (h1 y my)
    · rcases List.mem_cons.1 hy with ey | my
      · subst ey; exact absurd ⟨he.1.symm, he.2.1.symm, he.2.2.symm⟩ (h1 x mx)
      · exact ih h2 mx my
theorem findC_some {L : List Cx} {p v c : Int} {x : Cx} (h : findC L p v c = some x) : x ∈ L ∧ x.p = p ∧ x.v = v ∧ x.c = c := by
  unfold findC at h
  exact ⟨List.mem_of_find?_eq_some h, keyX_iff.1 (List.find?_some h)⟩
theorem findC_none {L : List Cx} {p v c : Int} : findC L p v c = none ↔ ∀ x ∈ L, ¬ (x.p = p ∧ x.v = v ∧ x.c = c) := by
  unfold findC
  rw [List.find?_eq_none]
  exact ⟨fun h x hx he => h x hx (keyX_iff.2 he), fun h x hx he => h x hx (keyX_iff.1 he)⟩
theorem findC_mem {L : List Cx} (h : OneK L) {x : Cx} (hx : x ∈ L) : findC L x.p x.v x.c = some x := by
  cases e : findC L x.p x.v x.c with
  | none => exact absurd ⟨rfl, rfl, rfl⟩ (findC_none.1 e x hx)
  | some y =>
    obtain ⟨h1, h2⟩ := findC_some e
    rw [h.inj h1 hx h2]
theorem usdL_del {L : List Cx} (h : OneK L) (p v c i : Int) : usdL (delC L p v c) i = usdL L i - (match findC L p v c with | some x => if x.p = i then needC x.k else 0 | none => 0) := by
  induction L with
  | nil => simp [delC, usdL, findC]
  | cons x L ih =>
    obtain ⟨h1, h2⟩ := List.pairwise_cons.1 h
    have ih := ih h2
    unfold delC findC at ih ⊢
    by_cases hk : keyX p v c x = true
    · rw [List.filter_cons_of_neg (by simp [hk]), List.find?_cons_of_pos hk]
      have hn : L.find? (keyX p v c) = none := by
        rw [List.find?_eq_none]
        intro y hy he
        have a := keyX_iff.1 hk
        have b := keyX_iff.1 he
        exact h1 y hy ⟨a.1.trans b.1.symm, a.2.1.trans b.2.1.symm, a.2.2.trans b.2.2.symm⟩
      rw [hn] at ih
      rw [ih]
      simp only [usdL]
      omega
    · rw [List.filter_cons_of_pos (by simpa using hk), List.find?_cons_of_neg hk]
      simp only [usdL, ih]
      split <;> omega
theorem usdL_same {L : List Cx} (p v c i : Int) (f : Cx → Cx) (hf : ∀ x, (f x).p = x.p ∧ (f x).k = x.k) : usdL (setC L p v c f) i = usdL L i := by
  induction L with
  | nil => rfl
  | cons x L ih =>
    unfold setC at ih ⊢
    rw [List.map_cons]
    simp only [usdL, ih]
    split
    · rw [(hf x).1, (hf x).2]
    · rfl
theorem len_insC (L : List Cx) (x : Cx) : (insC L x).length = L.length + 1 := by
  unfold insC
  rw [List.length_append, List.length_cons]
  have := congrArg List.length (List.take_append_drop (aheadC L x.p x.v x.c) L)
  rw [List.length_append] at this
  omega
theorem mem_insC {L : List Cx} {x y : Cx} : y ∈ insC L x ↔ y = x ∨ y ∈ L := by
  unfold insC
  rw [List.mem_append, List.mem_cons]
  have h : y ∈ L ↔ y ∈ L.take (aheadC L x.p x.v x.c) ∨ y ∈ L.drop (aheadC L x.p x.v x.c) := by rw [← List.mem_append, List.take_append_drop]
  rw [h]
  exact ⟨fun h => by rcases h with h | h | h; exact .inr (.inl h); exact .inl h; exact .inr (.inr h), fun h => by rcases h with h | h | h; exact .inr (.inl h); exact .inl h; exact .inr (.inr h)⟩

/-! ### What a node answers -/
def leftN (rooms : List Int) (L : List Cx) (p : Int) : Int := if 0 ≤ p ∧ p < rooms.length then rooms.getD p.toNat 0 - usdL L p else 0
def wrongN (rooms : List Int) (p v c : Int) (k : Con) : Int := if (0 ≤ p ∧ p < rooms.length) ∧ rightB p v c = true ∧ 32 ≤ c then (if rightC k = 0 then 0 else 73) else 3
def chkN (rooms : List Int) (L : List Cx) (p v c : Int) (k : Con) : Int :=
  if wrongN rooms p v c k = 0 then (if (findC L p v c).isSome = true then 35 else if 64 ≤ L.length then 47 else if needC k > leftN rooms L p then 37 else 0) else wrongN rooms p v c k
def takeN (rooms : List Int) (L : List Cx) (p v c : Int) (k : Con) : List Cx := if chkN rooms L p v c k = 0 then insC L ⟨p, v, c, k, rulesC k⟩ else L
def verV (L : List Cx) (p v c t clp : Int) : Int := match findC L p v c with | some x => polV (alwaysC x.k) t clp x.rs | none => 0
def verN (L : List Cx) (p v c t clp : Int) : List Cx := setC L p v c (newR t clp)
theorem wrongN_zero {rooms : List Int} {p v c : Int} {k : Con} (h : wrongN rooms p v c k = 0) : (0 ≤ p ∧ p < rooms.length) ∧ rightB p v c = true ∧ 32 ≤ c ∧ rightC k = 0 := by
  unfold wrongN at h
  split at h
  · rename_i h1
    split at h
    · rename_i h2; exact ⟨h1.1, h1.2.1, h1.2.2, h2⟩
    · cases h
  · cases h
theorem chkN_zero {rooms : List Int} {L : List Cx} {p v c : Int} {k : Con} (h : chkN rooms L p v c k = 0) : wrongN rooms p v c k = 0 ∧ findC L p v c = none ∧ L.length < 64 ∧ needC k ≤ leftN rooms L p := by
  unfold chkN at h
  split at h
  · rename_i h1
    split at h
    · cases h
    · rename_i h2
      split at h
      · cases h
      · split at h
        · cases h
        · exact ⟨h1, by cases e : findC L p v c; rfl; rw [e] at h2; exact absurd rfl h2, by omega, by omega⟩
  · rename_i h1; exact absurd h h1
/-- What a node keeps true of its list. -/
structure LI (rooms : List Int) (L : List Cx) : Prop where
  srt : SrtE (L.map Cx.e0)
  len : L.length ≤ 64
  key : ∀ x ∈ L, (0 ≤ x.p ∧ x.p < rooms.length) ∧ rightB x.p x.v x.c = true ∧ 32 ≤ x.c ∧ rightC x.k = 0
  rls : ∀ x ∈ L, RlsI x.rs
  fit : ∀ (i : Nat) (r : Int), rooms[i]? = some r → usdL L i ≤ r
  rm : rooms.length ≤ 8
  rooms : ∀ r ∈ rooms, 0 ≤ r ∧ r ≤ 1152921504606846976
theorem OneK.of_srt {L : List Cx} (h : SrtE (L.map Cx.e0)) : OneK L := by
  unfold SrtE at h
  rw [List.pairwise_map] at h
  refine h.imp fun {x y} hb he => ?_
  unfold befE at hb
  rw [befK_iff] at hb
  simp only [Cx.e0] at hb
  omega
theorem LI.one {rooms : List Int} {L : List Cx} (h : LI rooms L) : OneK L := .of_srt h.srt
theorem map_insC (L : List Cx) (x : Cx) : (insC L x).map Cx.e0 = insE (L.map Cx.e0) x.e0 := by
  unfold insC insE aheadC
  simp only [List.map_append, List.map_cons, List.map_take, List.map_drop]
  rfl
theorem map_delC (L : List Cx) (p v c : Int) : (delC L p v c).map Cx.e0 = delE (L.map Cx.e0) p v c := by
  unfold delC delE
  rw [List.filter_map]
  congr 1
theorem map_setC (L : List Cx) (p v c : Int) (f : Cx → Cx) (hf : ∀ x, (f x).e0 = x.e0) : (setC L p v c f).map Cx.e0 = L.map Cx.e0 := by
  unfold setC
  rw [List.map_map]
  apply List.map_congr_left
  intro x _
  simp only [Function.comp]
  split
  · exact hf x
  · rfl
theorem leftN_at {rooms : List Int} {L : List Cx} {i : Nat} {r : Int} (h : rooms[i]? = some r) : leftN rooms L i = r - usdL L i := by
  obtain ⟨h1, h2⟩ := List.getElem?_eq_some_iff.1 h
  unfold leftN
  rw [if_pos ⟨by omega, by omega⟩]
  simp [List.getD, h]
theorem port_nat {rooms : List Int} {p : Int} (h : 0 ≤ p ∧ p < rooms.length) : ∃ (i : Nat) (r : Int), p = (i : Int) ∧ i < rooms.length ∧ rooms[i]? = some r :=
  ⟨p.toNat, _, by omega, by omega, List.getElem?_eq_getElem (by omega)⟩
theorem LI.nil {rooms : List Int} (h : rooms.length ≤ 8) (hr : ∀ r ∈ rooms, 0 ≤ r ∧ r ≤ 1152921504606846976) : LI rooms [] :=
  ⟨List.Pairwise.nil, by simp, by simp, by simp, fun i r hi => by simp only [usdL]; exact (hr r (List.mem_of_getElem? hi)).1, h, hr⟩
theorem LI.take {rooms : List Int} {L : List Cx} (h : LI rooms L) (p v c : Int) (k : Con) : LI rooms (takeN rooms L p v c k) := by
  unfold takeN
  split
  · rename_i h0
    obtain ⟨h1, h2, h3, h4⟩ := chkN_zero h0
    obtain ⟨a1, a2, a3, a4⟩ := wrongN_zero h1
    refine ⟨?_, by rw [len_insC]; omega, fun x hx => ?_, fun x hx => ?_, fun i r hi => ?_, h.rm, h.rooms⟩
    · rw [map_insC]
      refine insE_srt h.srt fun y hy => ?_
      obtain ⟨z, hz, rfl⟩ := List.mem_map.1 hy
      exact findC_none.1 h2 z hz
    · rcases mem_insC.1 hx with rfl | hx
      · exact ⟨a1, a2, a3, a4⟩
      · exact h.key x hx
    · rcases mem_insC.1 hx with rfl | hx
      · exact RlsI.rules k
      · exact h.rls x hx
    · rw [usdL_ins]
      have := h.fit i r hi
      split
      · rename_i he
        simp only at he
        subst he
        rw [leftN_at hi] at h4
        simp only
        omega
      · omega
  · exact h
theorem LI.drop {rooms : List Int} {L : List Cx} (h : LI rooms L) (p v c : Int) : LI rooms (delC L p v c) := by
  have hm : ∀ x ∈ delC L p v c, x ∈ L := fun x hx => (List.mem_filter.1 hx).1
  refine ⟨?_, Nat.le_trans (List.length_filter_le _ _) h.len, fun x hx => h.key x (hm x hx), fun x hx => h.rls x (hm x hx), fun i r hi => ?_, h.rm, h.rooms⟩
  · rw [map_delC]; exact delE_srt h.srt p v c
  · rw [usdL_del h.one]
    have := h.fit i r hi
    split
    · rename_i x _; have := (needC_le x.k).1; split <;> omega
    · omega
theorem mem_setC {L : List Cx} {p v c : Int} {f : Cx → Cx} {y : Cx} (h : y ∈ setC L p v c f) : y ∈ L ∨ ∃ x ∈ L, (x.p = p ∧ x.v = v ∧ x.c = c) ∧ y = f x := by
  obtain ⟨x, hx, rfl⟩ := List.mem_map.1 h
  split
  · rename_i hk; exact .inr ⟨x, hx, keyX_iff.1 hk, rfl⟩
  · exact .inl hx
theorem LI.verdict {rooms : List Int} {L : List Cx} (h : LI rooms L) (p v c t clp : Int) : LI rooms (verN L p v c t clp) := by
  unfold verN
  refine ⟨?_, by unfold setC; rw [List.length_map]; exact h.len, fun x hx => ?_, fun x hx => ?_, fun i r hi => ?_, h.rm, h.rooms⟩
  · rw [map_setC _ _ _ _ (newR t clp) (fun x => rfl)]; exact h.srt
  · rcases mem_setC hx with hx | ⟨y, hy, _, rfl⟩
    · exact h.key x hx
    · exact h.key y hy
  · rcases mem_setC hx with hx | ⟨y, hy, _, rfl⟩
    · exact h.rls x hx
    · exact (h.rls y hy).take t clp
  · rw [usdL_same _ _ _ _ (newR t clp) (fun x => ⟨rfl, rfl⟩)]; exact h.fit i r hi
end Go.Proofs.YtcablikikkmfjaaGreat
end
