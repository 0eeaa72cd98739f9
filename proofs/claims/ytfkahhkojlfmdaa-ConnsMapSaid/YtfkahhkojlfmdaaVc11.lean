/- The calculus' eleventh part: ranges over a function. -/
import Derived.Test.YtfkahhkojlfmdaaVc7
import Derived.RangeFuncLeaves
import Derived.RangeFuncRecord
set_option linter.unusedVariables false
set_option linter.unusedSimpArgs false
namespace Go.Vc
open Go.RowKit

/-! ### 1. The block of a loop's deferred calls, and the marks among a frame's -/
def Dfr (w : World) (D : Nat) : Prop := w.heap[D]? = some (.deferred (some []))
section
variable {F : Nat → Prop} {w w' : World} {D : Nat}
theorem Dfr.lt (h : Dfr w D) : D < w.heap.size := (Array.getElem?_eq_some_iff.1 h).1
theorem Dfr.step (h : Dfr w D) (hs : Step F w w') (hF : ¬ F D) : Dfr w' D := (hs.block D h.lt hF).trans h
theorem Dfr.no (h : Dfr w D) (hs : Step No w w') : Dfr w' D := h.step hs id
end
def markOf (D : Nat) : Deferred := { target := .collected D, args := #[] }
theorem putObj_step {w : World} {b : Nat} (o : Obj) : Step (Just b) w (w.putObj b o) :=
  ⟨rfl, rfl, rfl, by simp, fun k hk hne => World.putObj_heap_other (fun e => hne e)⟩
theorem putObj_size {w : World} {b : Nat} (o : Obj) : (w.putObj b o).heap.size = w.heap.size := by simp

/-! ### 2. A call of yield -/
def YV (P : Program) (L : Nat) (args : Array Value) (w : World) (R : Value → World → Prop) : Prop :=
  ∃ fn tmps assign body, (Instr.yield L args).run P w = .ok (.round L fn tmps assign body) w ∧ RoundIn (Fx none) 0 P L fn tmps assign body w fun e w' => ∃ v, e = .returned v ∧ R v w'
theorem YV.mono {P : Program} {L : Nat} {args : Array Value} {w : World} {R R' : Value → World → Prop} (h : YV P L args w R) (hr : ∀ v w', R v w' → R' v w') : YV P L args w R' := by
  obtain ⟨fn, tmps, assign, body, h1, h2⟩ := h
  exact ⟨fn, tmps, assign, body, h1, h2.mono fun e w' ⟨v, he, hR⟩ => ⟨v, he, hr v w' hR⟩⟩

section
variable {r : Option Nat} {n : Nat} {ds : List Deferred} {P : Program} {ops : Array Oper} {Q : Exit → Act → World → Prop} {l : List (Nat × Value)} {w : World} {i : Nat}
def yieldOp (ops : Array Oper) (l : List (Nat × Value)) (i : Nat) : Option (Nat × Nat × Array Value) :=
  match ops[i]? with
  | none => none
  | some o =>
    match guardOk ops l o, listed l o, o.dst, o.op with
    | some true, true, some d, .call { callee := .value f, args, .. } =>
      match evL l f with
      | .func (.yield L) first captured => some (d, L, first ++ args.map (evL l))
      | _ => none
    | _, _, _, _ => none

theorem V1_yield {d L : Nat} {args : Array Value} {S : Value → World → Prop} (h : yieldOp ops l i = some (d, L, args)) (hd : Nat.blt d n = true)
    (hcall : YV P L args w S) {K : List (Nat × Value) → World → Prop} (next : ∀ v w', S v w' → K ((d, v) :: l) w') :
    V1 none n ds P ops Q i l w K := by
  unfold yieldOp at h
  cases ho : ops[i]? with
  | none => rw [ho] at h; cases h
  | some o =>
    rw [ho] at h
    simp only at h
    cases hg : guardOk ops l o with
    | none => rw [hg] at h; simp at h
    | some b =>
      cases b with
      | false => rw [hg] at h; simp at h
      | true =>
        cases hl : listed l o with
        | false => rw [hg, hl] at h; simp at h
        | true =>
          cases hdst : o.dst with
          | none => rw [hg, hl, hdst] at h; simp at h
          | some d' =>
            rw [hg, hl, hdst] at h
            cases hop : o.op <;> simp only [hop, reduceCtorEq] at h
            case call cl =>
              obtain ⟨callee, cargs, ts⟩ := cl
              cases callee <;> (try (simp at h; done))
              case value x =>
                cases hx : evL l x <;> simp only [hx, reduceCtorEq] at h
                case func fn first captured =>
                  cases fn <;> simp only [reduceCtorEq, Option.some.injEq, Prod.mk.injEq] at h
                  case yield L' =>
                    obtain ⟨rfl, rfl, hargs⟩ := h
                    obtain ⟨fn', tmps, assign, body, hy, hR⟩ := hcall
                    refine V1_run ho hg hl fun a ha => ?_
                    have hrun : (execOp (evL l) o).run P w = .ok (.round L' fn' tmps assign body) w := by
                      simp only [execOp, hop, resolve, hx, Deferred.ofValue, Sem.run_bind, Sem.run_pure, Result.andThen_ok, invoke]
                      rw [hargs]; exact hy
                    rw [hrun]
                    refine ⟨(fun hd => by cases hd), ?_⟩
                    refine RoundIn.mono hR ?_
                    rintro e w' ⟨v, rfl, hS⟩
                    exact ⟨_, by rw [hdst]; exact ha.put _ (blt_spec hd) _, next v w' hS⟩
theorem VL_yield {d L : Nat} {args : Array Value} {S : Value → World → Prop} (h : yieldOp ops l i = some (d, L, args)) (hd : Nat.blt d n = true) (hi : Nat.blt i ops.size = true)
    (hcall : YV P L args w S) (next : ∀ v w', S v w' → VL none n ds P ops Q (i + 1) ((d, v) :: l) w') :
    VL none n ds P ops Q i l w := VL_of_V1 hi (V1_yield h hd hcall next)
end

/-! ### 3. An iterator's contract: what it hands to yield is told beforehand -/
/-- W0: the world at its call. Rd: what it reads lies there still. J M k: k rounds are over; what was laid before the first one lies below M. -/
def IterC (P : Program) (gf : Nat) (lb : Array Value) (xs : List (Array Value)) (Rd : Nat → World → Prop) : Prop :=
  ∀ (L : Nat) (W0 : World) (J Jx : Nat → Nat → World → Prop),
    (∀ M k W W', J M k W → Step No W W' → J M k W') → (∀ M k W W', Jx M k W → Step No W W' → Jx M k W') → (∀ M k W, J M k W → Rd k W) → Rd 0 W0 →
    (∀ M W, W0.heap.size ≤ M → M ≤ W.heap.size → Step No W0 W → J M 0 W) →
    (∀ M k W args, W0.heap.size ≤ M → M ≤ W.heap.size → xs[k]? = some args → J M k W → YV P L args W fun v W' => Step (fun i => i < W0.heap.size ∨ M ≤ i) W W' ∧ (v = .bool true ∧ J M (k + 1) W' ∨ v = .bool false ∧ Jx M (k + 1) W')) →
    CV P gf (#[.func (.yield L) #[] #[]] ++ lb) W0 fun _ W' => ∃ M, W0.heap.size ≤ M ∧ (J M xs.length W' ∨ ∃ k, k ≤ xs.length ∧ Jx M k W')

/-! ### 4. The statement -/
section
variable {r : Option Nat} {n : Nat} {ds : List Deferred} {P : Program} {Q : Exit → Act → World → Prop} {l : List (Nat × Value)} {w : World}

def codeExit : Code → Option Exit
  | .ret => some .ret
  | .exit id => some (.exit id)
  | _ => none

/-- How a round may be left: W3: the world at its body's start. -/
def RoundQ (Fb : Nat → Prop) (J : World → Prop) (Jx : Exit → World → Prop) (W3 : World) : Exit → Act → World → Prop
  | .normal, _, w' => Step Fb W3 w' ∧ J w'
  | .exit id, _, w' => Step Fb W3 w' ∧ Jx (.exit id) w'
  | .ret, _, w' => Step Fb W3 w' ∧ Jx .ret w'
  | _, _, _ => False
/-- Behind the assignments to the loop's left sides. -/
def AsgQ (P : Program) (L : Nat) (body : Code) (Qr : World → Exit → Act → World → Prop) (W : World) : Exit → Act → World → Prop
  | .normal, a, w2 => Step No W w2 ∧ ∀ w3, Step (Just L) w2 w3 → w3.heap.size = w2.heap.size → body.wpIn (Fx (some L)) 0 P (Qr w3) a w3
  | _, _, _ => False
theorem VQ_begin {L : Nat} {body : Code} {Qr : World → Exit → Act → World → Prop} {W : World} (hs : Step No W w) (h : ∀ w3, Step (Just L) w w3 → w3.heap.size = w.heap.size → VC (some L) n ds P (Qr w3) body l w3) :
    VQ n ds (AsgQ P L body Qr W) .normal l w := fun a ha => ⟨hs, fun w3 h3 hz => h w3 h3 hz a ha⟩
theorem VQ_round_end {Fb : Nat → Prop} {J : World → Prop} {Jx : Exit → World → Prop} {W3 : World} (hs : Step Fb W3 w) (hJ : J w) : VQ n ds (RoundQ Fb J Jx W3) .normal l w := fun _ _ => ⟨hs, hJ⟩
theorem VQ_round_exit {Fb : Nat → Prop} {J : World → Prop} {Jx : Exit → World → Prop} {W3 : World} {id : Nat} (hs : Step Fb W3 w) (hJ : Jx (.exit id) w) : VQ n ds (RoundQ Fb J Jx W3) (.exit id) l w := fun _ _ => ⟨hs, hJ⟩
theorem VQ_round_ret {Fb : Nat → Prop} {J : World → Prop} {Jx : Exit → World → Prop} {W3 : World} (hs : Step Fb W3 w) (hJ : Jx .ret w) : VQ n ds (RoundQ Fb J Jx W3) .ret l w := fun _ _ => ⟨hs, hJ⟩

theorem zip_foldl {ps : List Nat} {vs : List Value} {t : Array Value} {l : List (Nat × Value)} (hn : t.size = n) (ht : ∀ k v, look l k = some v → t[k]? = some v) (hps : ∀ p ∈ ps, p < n) :
    ((ps.zip vs).foldl (fun t (x : Nat × Value) => t.setIfInBounds x.1 x.2) t).size = n ∧ ∀ k v, look ((ps.zip vs).reverse ++ l) k = some v → ((ps.zip vs).foldl (fun t (x : Nat × Value) => t.setIfInBounds x.1 x.2) t)[k]? = some v := by
  induction ps generalizing vs t l with
  | nil => exact ⟨by simpa using hn, by simpa using ht⟩
  | cons p ps ih =>
    cases vs with
    | nil => exact ⟨by simpa using hn, by simpa using ht⟩
    | cons v vs =>
      have := ih (vs := vs) (t := t.setIfInBounds p v) (l := (p, v) :: l) (by simpa using hn) (by
        intro k u hk
        simp only [look] at hk
        cases e : Nat.beq p k with
        | true =>
          rw [e] at hk; cases hk
          have : p = k := Nat.eq_of_beq_eq_true e
          subst this
          rw [Array.getElem?_setIfInBounds_self_of_lt (by rw [hn]; exact hps _ (by simp))]
        | false =>
          rw [e] at hk
          rw [Array.getElem?_setIfInBounds_ne (Nat.ne_of_beq_eq_false e)]
          exact ht k u hk) (fun q hq => hps q (by simp [hq]))
      refine ⟨this.1, ?_⟩
      intro k u hk
      refine this.2 k u ?_
      simpa [List.append_assoc] using hk

theorem VC_range {g : Operand} {ps : Array Tmp} {assign body : Code} {gf : Nat} {lb : Array Value} {xs : List (Array Value)} {Rd : Nat → World → Prop} (hg : opV l g = some (.func (.func gf) #[] lb))
    (eg : ∀ (args : Array Value) (w : World), (callFunc gf args).run P w = .ok (.enter gf args) w) (hc : IterC P gf lb xs Rd) (hps : ∀ a ∈ xs, a.size = ps.size) (hpn : ps.toList.all (fun p => Nat.blt p n) = true)
    (Fb : Nat → Nat → Prop) (hFb : ∀ M i, Fb M i → i < w.heap.size ∨ M ≤ i) (J : Nat → Nat → World → Prop) (Jx : Exit → World → Prop)
    (hJ : ∀ M k W W', J M k W → Step (Just (w.heap.size + 1)) W W' → J M k W') (hJx : ∀ e W W', Jx e W → Step (Just (w.heap.size + 1)) W W' → Jx e W')
    (hJn : ∀ M k W W', J M k W → Step No W W' → J M k W') (hJxn : ∀ e W W', Jx e W → Step No W W' → Jx e W')
    (hrd : ∀ M k W, J M k W → Rd k W) (hrd0 : ∀ W, Step No w W → Rd 0 W)
    (h0 : ∀ M W, w.heap.size + 2 ≤ M → M ≤ W.heap.size → Step No w W → Dfr W w.heap.size → J M 0 W)
    (hround : ∀ M k W args, w.heap.size + 2 ≤ M → M ≤ W.heap.size → xs[k]? = some args → J M k W → w.heap.size + 1 < W.heap.size →
      VC (some (w.heap.size + 1)) n [] P (AsgQ P (w.heap.size + 1) body (RoundQ (Fb M) (J M (k + 1)) Jx) W) assign ((ps.toList.zip args.toList).reverse ++ l) W)
    (hdone : ∀ M W, w.heap.size + 2 ≤ M → w.heap.size + 2 ≤ W.heap.size → J M xs.length W → Dfr W w.heap.size → VQ n (markOf w.heap.size :: ds) Q .normal l W)
    (hstop : ∀ e W, w.heap.size + 2 ≤ W.heap.size → Jx e W → Dfr W w.heap.size → VQ n (markOf w.heap.size :: ds) Q e l W) :
    VC none n ds P Q (.rangeFunc g ps assign body) l w := by
  intro a ha
  have hev := opV_spec ha hg
  refine wpIn_rangeFunc ?_
  intro fn hfn
  obtain ⟨rec, hrec⟩ : ∃ rec : LoopState → Option Code → Loop, rec = fun st pe => { state := st, pending := pe, fn, tmps := a.tmps, params := ps, assign, body, defers := w.heap.size } := ⟨_, rfl⟩
  obtain ⟨W1, hW1⟩ : ∃ W1, (w.alloc (.deferred (some []))).alloc (.loop (rec .ready none)) = W1 := ⟨_, rfl⟩
  have hz1 : W1.heap.size = w.heap.size + 2 := by rw [← hW1]; simp
  have hL1 : W1.heap[w.heap.size + 1]? = some (.loop (rec .ready none)) := by
    rw [← hW1]; have := World.alloc_heap_new (w.alloc (.deferred (some []))) (.loop (rec .ready none)); rwa [World.size_alloc] at this
  have hK1 : Dfr W1 w.heap.size := by
    unfold Dfr; rw [← hW1]; exact (Below.heap_alloc _ _ _ (by simp)).trans (World.alloc_heap_new w _)
  have hs1 : Step No w W1 := by
    rw [← hW1]
    exact ⟨rfl, rfl, rfl, by simp; omega, fun k hk _ => (Below.heap_alloc _ _ _ (by simp; omega)).trans (Below.heap_alloc _ _ _ hk)⟩
  refine ⟨w.heap.size + 1, [markOf w.heap.size], W1, { target := .fn (.func gf) lb, args := #[.func (.yield (w.heap.size + 1)) #[] #[]] }, W1, gf,
    #[.func (.yield (w.heap.size + 1)) #[] #[]] ++ lb, W1, ?_, ?_, ?_, ?_, (fun hd => by cases hd), ?_⟩
  · rw [← hW1, hrec]; exact run_enterLoop_outer _ _ _ _ _
  · simp only [resolve, hev]
    simp [go_sem]
  · intro f' _; exact trivial
  · simp [invoke, go_sem, eg]
  · have hstepL : ∀ {W : World} (o : Obj), Step (Just (w.heap.size + 1)) W (W.putObj (w.heap.size + 1) o) := fun o => putObj_step o
    refine callsIn_Fx ?_
    refine Calls.mono (hc (w.heap.size + 1) W1
      (fun M k W => J M k W ∧ W.heap[w.heap.size + 1]? = some (.loop (rec .ready none)) ∧ Dfr W w.heap.size ∧ M ≤ W.heap.size)
      (fun M k W => ∃ c e, codeExit c = some e ∧ Jx e W ∧ W.heap[w.heap.size + 1]? = some (.loop (rec .done (some c))) ∧ Dfr W w.heap.size) ?_ ?_ ?_ ?_ ?_ ?_) ?_
    · rintro M k W W' ⟨hj, hl, hk, hm⟩ hs
      exact ⟨hJn M k W W' hj hs, (hs.no (Array.getElem?_eq_some_iff.1 hl).1).trans hl, hk.no hs, Nat.le_trans hm hs.size⟩
    · rintro M k W W' ⟨c, e, hce, hj, hl, hk⟩ hs
      exact ⟨c, e, hce, hJxn e W W' hj hs, (hs.no (Array.getElem?_eq_some_iff.1 hl).1).trans hl, hk.no hs⟩
    · rintro M k W ⟨hj, _⟩; exact hrd M k W hj
    · exact hrd0 W1 hs1
    · intro M W hM hM2 hs
      rw [hz1] at hM
      exact ⟨h0 M W hM hM2 (hs1.trans hs) (hK1.no hs), (hs.no (by omega)).trans hL1, hK1.no hs, hM2⟩
    · rintro M k W args hM hM2 hx ⟨hj, hl, hk, hm⟩
      rw [hz1] at hM
      have hmem : args ∈ xs := List.mem_of_getElem? hx
      have hy := run_yield (P := P) (args := args) hl (by rw [hrec]; exact hps args hmem)
      rw [hrec] at hy
      have hlt : w.heap.size + 1 < W.heap.size := (Array.getElem?_eq_some_iff.1 hl).1
      refine ⟨fn, _, assign, body, hy, roundIn_of_wpIn hfn ?_⟩
      have hz := zip_foldl (n := n) (ps := ps.toList) (vs := args.toList) (t := a.tmps) (l := l) ha.size ha.get (fun p hp => blt_spec (List.all_eq_true.1 hpn p hp))
      have hfold : ((ps.zip args).foldl (fun tmps (x : Tmp × Value) => tmps.setIfInBounds x.1 x.2) a.tmps) = ((ps.toList.zip args.toList).foldl (fun t (x : Nat × Value) => t.setIfInBounds x.1 x.2) a.tmps) := by
        rw [← Array.foldl_toList, Array.toList_zip]
      refine wpIn_mono (hround M k W args hM hM2 hx hj hlt { tmps := _, defers := [] } ⟨by rw [hfold]; exact hz.1, rfl, fun t v ht => by rw [hfold]; exact hz.2 t v ht⟩) ?_
      rintro e a2 w2 hq
      cases e <;> (try exact hq.elim)
      obtain ⟨hs2, hq⟩ := hq
      have hl2 : w2.heap[w.heap.size + 1]? = some (.loop (rec .ready none)) := (hs2.no hlt).trans hl
      have hlt2 : w.heap.size + 1 < w2.heap.size := (Array.getElem?_eq_some_iff.1 hl2).1
      have hk2 := hk.no hs2
      obtain ⟨W3, hW3⟩ : ∃ W3, w2.putObj (w.heap.size + 1) (.loop { rec .ready none with state := .busy }) = W3 := ⟨_, rfl⟩
      have hs3 : Step (Just (w.heap.size + 1)) w2 W3 := hW3 ▸ putObj_step _
      have hz3 : W3.heap.size = w2.heap.size := by rw [← hW3]; exact putObj_size _
      have hl3 : W3.heap[w.heap.size + 1]? = some (.loop { rec .ready none with state := .busy }) := by rw [← hW3]; exact World.putObj_heap_same hlt2
      have hk3 : Dfr W3 w.heap.size := hk2.step hs3 (by simp)
      refine ⟨W3, by rw [← hW3]; exact run_beginRound hl2 (by rw [hrec]), ?_⟩
      refine wpIn_mono (hq W3 hs3 hz3) ?_
      have hgrow : W.heap.size ≤ W3.heap.size := by have := hs2.size; omega
      have fin : ∀ (jump : Option Code) (W4 : World), Step (Fb M) W3 W4 →
          (Instr.endRound (w.heap.size + 1) jump).run P W4 = .ok (.bool jump.isNone) (W4.putObj (w.heap.size + 1) (.loop (rec (if jump.isNone then .ready else .done) jump))) ∧
          (W4.putObj (w.heap.size + 1) (.loop (rec (if jump.isNone then .ready else .done) jump))).heap[w.heap.size + 1]? = some (.loop (rec (if jump.isNone then .ready else .done) jump)) ∧
          Dfr (W4.putObj (w.heap.size + 1) (.loop (rec (if jump.isNone then .ready else .done) jump))) w.heap.size ∧
          Step (fun i => i < W1.heap.size ∨ M ≤ i) W (W4.putObj (w.heap.size + 1) (.loop (rec (if jump.isNone then .ready else .done) jump))) ∧
          M ≤ (W4.putObj (w.heap.size + 1) (.loop (rec (if jump.isNone then .ready else .done) jump))).heap.size := fun jump W4 hs4 => by
        have hnL : ¬ Fb M (w.heap.size + 1) := fun h => by have := hFb _ _ h; omega
        have hnD : ¬ Fb M w.heap.size := fun h => by have := hFb _ _ h; omega
        have hl4 : W4.heap[w.heap.size + 1]? = some (.loop { rec .ready none with state := .busy }) := (hs4.block _ (by omega) hnL).trans hl3
        have hk4 : Dfr W4 w.heap.size := hk3.step hs4 hnD
        have hr := run_endRound (P := P) jump hl4
        have hlt4 := (Array.getElem?_eq_some_iff.1 hl4).1
        rw [hrec] at hr ⊢
        refine ⟨hr, World.putObj_heap_same hlt4, hk4.step (putObj_step _) (by simp), ?_, by rw [putObj_size]; have := hs4.size; omega⟩
        refine Step.trans (hs2.weak) (Step.trans (hs3.mono fun i hi => .inl (by rw [hz1]; have : i = w.heap.size + 1 := hi; omega)) (Step.trans (hs4.mono fun i hi => ?_) ((putObj_step _).mono fun i hi => .inl (by rw [hz1]; have : i = w.heap.size + 1 := hi; omega))))
        rcases hFb M i hi with h | h
        · exact .inl (by omega)
        · exact .inr h
      rintro e a3 W4 hp
      cases e with
      | normal =>
        obtain ⟨hs4, hj4⟩ := hp
        obtain ⟨hr, hl5, hk5, hs5, hm5⟩ := fin none W4 hs4
        exact ⟨_, _, hr, _, rfl, hs5, .inl ⟨rfl, hJ _ _ _ _ hj4 (putObj_step _), hl5, hk5, hm5⟩⟩
      | ret =>
        obtain ⟨hs4, hj4⟩ := hp
        obtain ⟨hr, hl5, hk5, hs5, hm5⟩ := fin (some .ret) W4 hs4
        exact ⟨_, _, hr, _, rfl, hs5, .inr ⟨rfl, .ret, .ret, rfl, hJx _ _ _ hj4 (putObj_step _), hl5, hk5⟩⟩
      | exit id =>
        obtain ⟨hs4, hj4⟩ := hp
        obtain ⟨hr, hl5, hk5, hs5, hm5⟩ := fin (some (.exit id)) W4 hs4
        exact ⟨_, _, hr, _, rfl, hs5, .inr ⟨rfl, .exit id, .exit id, rfl, hJx _ _ _ hj4 (putObj_step _), hl5, hk5⟩⟩
      | goto t => exact hp.elim
      | panic ch => exact hp.elim
      | outgrown => exact hp.elim
    · rintro e W2 ⟨v, rfl, M, hM, (⟨hj, hl, hk, hm⟩ | ⟨k, hkl, c, e', hce, hj, hl, hk⟩)⟩
      · rw [hz1] at hM
        have hlt := (Array.getElem?_eq_some_iff.1 hl).1
        refine ⟨none, _, by have := run_endLoop (P := P) hl (by rw [hrec]; simp); rw [hrec] at this; exact this, ?_⟩
        exact hdone M _ hM (by rw [putObj_size]; omega) (hJ _ _ _ _ hj (putObj_step _)) (hk.step (putObj_step _) (by simp)) _ ⟨ha.size, by simp [ha.defers], ha.get⟩
      · have hlt := (Array.getElem?_eq_some_iff.1 hl).1
        refine ⟨some c, _, by have := run_endLoop (P := P) hl (by rw [hrec]; simp); rw [hrec] at this; exact this, ?_⟩
        have hq := hstop e' (W2.putObj (w.heap.size + 1) (.loop { rec .done (some c) with state := .exhausted })) (by rw [putObj_size]; omega) (hJx _ _ _ hj (putObj_step _)) (hk.step (putObj_step _) (by simp)) { a with defers := [markOf w.heap.size] ++ a.defers } ⟨ha.size, by simp [ha.defers], ha.get⟩
        rw [hrec] at hq
        cases c <;> simp only [codeExit, reduceCtorEq, Option.some.injEq] at hce
        · subst hce; exact wpIn_exit hq
        · subst hce; exact wpIn_ret hq

/-! ### 5. The end of a function with marks -/
theorem CV_enterM {f : FuncId} {args : Array Value} {S : Value → World → Prop} (fn : Func) (c : Code) (n : Nat) (l0 : List (Nat × Value)) (hf : P.funcs[f]? = some fn) (hb : fn.body = some c)
    (hn : fn.ntmps = n) (ha : Nat.ble args.toList.length n = true) (hl : zipArgs 0 args.toList = l0) (h : VC none n [] P (bodyPostM (Fx none) 0 P fn (PostV S)) c l0 w) : CV P f args w S := by
  refine (callsIn_wide (n := 0)).1 (callsIn_of_wp_marks hf hb trivial ?_)
  refine h _ ⟨?_, rfl, fun t v hv => ?_⟩
  · have := Nat.le_of_ble_eq_true ha
    simp at this
    simp [hn]
    omega
  · rw [← hl] at hv
    obtain ⟨_, h2⟩ := look_zipArgs _ _ _ _ hv
    simp only [Nat.sub_zero, Array.getElem?_toList] at h2
    obtain ⟨hlt, _⟩ := Array.getElem?_eq_some_iff.1 h2
    rw [Array.getElem?_append_left hlt]
    exact h2

/-- The marks' blocks lie there, each once. -/
def Marks : List Nat → World → Prop
  | [], _ => True
  | D :: Ds, w => Dfr w D ∧ D ∉ Ds ∧ Marks Ds w
theorem Marks.step {F : Nat → Prop} {w w' : World} : ∀ {Ds : List Nat}, Marks Ds w → Step F w w' → (∀ D ∈ Ds, ¬ F D) → Marks Ds w'
  | [], _, _, _ => trivial
  | D :: Ds, h, hs, hF => ⟨h.1.step hs (hF D (by simp)), h.2.1, h.2.2.step hs fun D' hD' => hF D' (by simp [hD'])⟩
theorem leavesM {fn : Func} {tmps : Array Value} {R : Ending → World → Prop} : ∀ (Ds : List Nat) (w : World), Marks Ds w →
    (∀ w', Step (fun i => i ∈ Ds) w w' → ∃ v, (results fn tmps).run P w' = .ok v w' ∧ R (.returned v) w') → LeavesInM (Fx none) 0 P fn tmps R (Ds.map markOf) .returning w
  | [], w, _, h => by
    obtain ⟨v, h1, h2⟩ := h w (Step.refl _ _)
    exact ⟨v, h1, h2⟩
  | D :: Ds, w, hm, h => by
    refine ⟨by simp, .inl ⟨D, w.putObj D (.deferred none), rfl, run_takeDeferred hm.1, ?_⟩⟩
    refine leavesM Ds _ (hm.2.2.step (putObj_step _) (fun D' hD' e => hm.2.1 (by rw [← show D' = D from e]; exact hD'))) fun w' hs => h w' ?_
    exact Step.trans ((putObj_step _).mono fun i hi => by simp [show i = D from hi]) (hs.mono fun i hi => by simp [hi])
theorem VQ_retM1 {fn : Func} {S : Value → World → Prop} {t : Nat} (v : Value) (Ds : List Nat) {e : Exit} (he : e = .normal ∨ e = .ret) (hr : fn.results = #[.tmp t]) (hv : look l t = some v) (hm : Marks Ds w) (hS : ∀ w', Step (fun i => i ∈ Ds) w w' → S v w') :
    VQ n (Ds.map markOf) (bodyPostM (Fx none) 0 P fn (PostV S)) e l w := by
  intro a ha
  have : LeavesInM (Fx none) 0 P fn a.tmps (PostV S) a.defers .returning w := by
    rw [ha.defers]
    exact leavesM Ds w hm fun w' hs => ⟨v, by rw [results_tmp hr]; simp [Array.getD_eq_getD_getElem?, ha.get t v hv], v, rfl, hS w' hs⟩
  rcases he with rfl | rfl <;> exact this
theorem VQ_retMC1 {fn : Func} {S : Value → World → Prop} {t : Nat} {T : TypeId} {a : Addr} (v : Value) (Ds : List Nat) {e : Exit} (he : e = .normal ∨ e = .ret) (hr : fn.results = #[.cell t T]) (ha' : look l t = some (.pointer (some a))) (hm : Marks Ds w)
    (hv : ∀ w', Step (fun i => i ∈ Ds) w w' → Loads P T w' a v) (hS : ∀ w', Step (fun i => i ∈ Ds) w w' → S v w') :
    VQ n (Ds.map markOf) (bodyPostM (Fx none) 0 P fn (PostV S)) e l w := by
  intro b hb
  have : LeavesInM (Fx none) 0 P fn b.tmps (PostV S) b.defers .returning w := by
    rw [hb.defers]
    exact leavesM Ds w hm fun w' hs => ⟨v, by simp [results, hr, Array.getD_eq_getD_getElem?, hb.get t _ ha', Sem.run_bind]; exact hv w' hs, v, rfl, hS w' hs⟩
  rcases he with rfl | rfl <;> exact this
end
end Go.Vc
