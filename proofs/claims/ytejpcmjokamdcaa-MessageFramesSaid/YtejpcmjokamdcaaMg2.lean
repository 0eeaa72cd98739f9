import Derived.Laws.AppendOwn
import Derived.RangeFuncLeaves
import Derived.RangeFuncRecord
import Derived.Test.YtejpcmjokamdcaaProg
import Derived.Test.YtejpcmjokamdcaaMg1
section
/- The calculus' tenth part: append. -/
set_option linter.unusedVariables false
set_option linter.unusedSimpArgs false
namespace Go.Vc
open Go.RowKit
section
variable {r : Option Nat} {n : Nat} {ds : List Deferred} {P : Program} {ops : Array Oper} {Q : Exit → Act → World → Prop} {l : List (Nat × Value)} {w : World} {i : Nat} {K : List (Nat × Value) → World → Prop}
/-- What append asks of an element's type: its cells, its bytes. -/
def appInfo (P : Program) (e : TypeId) : Option (Nat × Nat) := match P.info? e with
  | some inf => match inf.zero with
    | some z => bif Nat.beq z.cells.size inf.size && Nat.blt 0 inf.size then some (inf.size, inf.bytes) else none
    | none => none
  | none => none
def appOp (P : Program) (n : Nat) (ops : Array Oper) (l : List (Nat × Value)) (i : Nat) : Option (Nat × TypeId × Value × Nat × Nat × Nat) :=
  match theOp ops l i with
  | some { dst := some d, op := .call { callee := .builtin .append, args := ags, argTypes := ts }, .. } =>
    match (ts[0]? : Option TypeId), (ts[1]? : Option TypeId), ((ags.map (evL l))[0]? : Option Value), ((ags.map (evL l))[1]? : Option Value) with
    | some t, some t', some v, some (Value.slice (some ⟨b, o, none⟩) m _) => match P.underlying t with
      | some (TypeDesc.slice e) => bif Nat.blt d n && Nat.beq t t' && Nat.beq ts.size 2 && Nat.beq ags.size 2 then some (d, e, v, b, o, m) else none
      | _ => none
    | _, _, _, _ => none
  | _ => none
theorem arr2 {α : Type} {a : Array α} {x y : α} (hs : a.size = 2) (h0 : a[0]? = some x) (h1 : a[1]? = some y) : a = #[x, y] := by
  apply Array.ext_getElem?
  intro j
  match j with
  | 0 => simpa using h0
  | 1 => simpa using h1
  | j + 2 => rw [Array.getElem?_eq_none (by omega), Array.getElem?_eq_none (by simp)]
theorem V1_append {d e b o m size bytes : Nat} {v : Value} (h : appOp P n ops l i = some (d, e, v, b, o, m)) (hi : appInfo P e = some (size, bytes)) (base nn : Nat) (xs news : List Value) (hown : w.ownsRow base e size v nn xs)
    (hl : news.length = m * size) (hnews : ∀ j u, news[j]? = some u → w.cell? ⟨b, o + j, none⟩ = some u) (h1 : ∀ u ∈ news, oneC u = true) (h63 : nn + m ≤ maxLen) (hbytes : (nn + m) * bytes ≤ 140737488355328) (hbase : base ≤ w.heap.size)
    (next : ∀ v' w', w'.ownsRow base e size v' (nn + m) (xs ++ news) → w.grownBy w' v.ownBlock → K ((d, v') :: l) w') : V1 r n ds P ops Q i l w K := by
  unfold appInfo at hi
  split at hi
  · rename_i inf hinf
    split at hi
    · rename_i z hz
      cases hb : Nat.beq z.cells.size inf.size && Nat.blt 0 inf.size with
      | false => rw [hb] at hi; cases hi
      | true =>
        rw [hb] at hi
        simp only [cond_true, Option.some.injEq, Prod.mk.injEq] at hi
        obtain ⟨hsz, hby⟩ := hi
        simp only [Bool.and_eq_true] at hb
        have hzs := Nat.eq_of_beq_eq_true hb.1
        have hpos := blt_spec hb.2
        unfold appOp at h
        split at h
        · rename_i _ d' ags ts ty pos aft gd ho
          split at h
          · rename_i t t' v' b' o' m' c' h0 h1' hv hx
            split at h
            · rename_i e' hu
              cases hq : Nat.blt d' n && Nat.beq t t' && Nat.beq ts.size 2 && Nat.beq ags.size 2 with
              | false => rw [hq] at h; cases h
              | true =>
                rw [hq] at h
                simp only [cond_true, Option.some.injEq, Prod.mk.injEq] at h
                obtain ⟨rfl, rfl, rfl, rfl, rfl, rfl⟩ := h
                simp only [Bool.and_eq_true] at hq
                obtain ⟨⟨⟨q1, q2⟩, q3⟩, q4⟩ := hq
                have q2 := Nat.eq_of_beq_eq_true q2
                subst q2
                have hts := arr2 (Nat.eq_of_beq_eq_true q3) h0 h1'
                have has := arr2 (by simpa using Nat.eq_of_beq_eq_true q4) hv hx
                obtain ⟨v2, w2, hr, hr1, hr2, _⟩ := run_append_own (P := P) w base t ty e' inf z size bytes hu hinf hz hsz hby (by rw [hzs, hsz]) (by omega) v' nn xs hown ⟨b', o', none⟩ m' c' news hl (fun j u hj => by rw [add_none]; exact hnews j u hj) (fun u hu => oneC_oneCell (h1 u hu)) h63 hbytes hbase
                refine V1_value ho rfl q1 ?_ (next v2 w2 hr1 hr2)
                simp only [execOp, resolve, invoke, builtin, Sem.run_bind, Sem.run_pure, Result.andThen_ok, has, hts, hr]
            · cases h
          · cases h
        · cases h
    · cases hi
  · cases hi
theorem VL_append {d e b o m size bytes : Nat} {v : Value} (h : appOp P n ops l i = some (d, e, v, b, o, m)) (hi' : Nat.blt i ops.size = true) (hi : appInfo P e = some (size, bytes)) (base nn : Nat) (xs news : List Value) (hown : w.ownsRow base e size v nn xs)
    (hl : news.length = m * size) (hnews : ∀ j u, news[j]? = some u → w.cell? ⟨b, o + j, none⟩ = some u) (h1 : ∀ u ∈ news, oneC u = true) (h63 : nn + m ≤ maxLen) (hbytes : (nn + m) * bytes ≤ 140737488355328) (hbase : base ≤ w.heap.size)
    (next : ∀ v' w', w'.ownsRow base e size v' (nn + m) (xs ++ news) → w.grownBy w' v.ownBlock → VL r n ds P ops Q (i + 1) ((d, v') :: l) w') : VL r n ds P ops Q i l w :=
  VL_of_V1 hi' (V1_append h hi base nn xs news hown hl hnews h1 h63 hbytes hbase next)
theorem own_cells {b : Nat} {c : Array Value} {e : TypeId} (h : Own w b c e) : ∀ j u, c.toList[j]? = some u → w.cell? ⟨b, 0 + j, none⟩ = some u := fun j u hj => (h.cell (0 + j)).trans (by rw [Nat.zero_add]; simpa using hj)
/-- A row's step, seen from a world in which the row is not yet. -/
theorem row_step {w0 w w' : World} {base e size nn : Nat} {v : Value} {xs : List Value} (hs : Step No w0 w) (h : w.ownsRow base e size v nn xs) (hb : w0.heap.size ≤ base) (hg : w.grownBy w' v.ownBlock) : Step No w0 w' :=
  Step.transNew (G := fun k => v.ownBlock = some k) hs (Step.of_grown hg fun k hk _ => hk) fun i hi hk => by have := (h.lt i hk).1; omega
theorem own_row {w w' : World} {base e size nn b : Nat} {v : Value} {xs : List Value} {c : Array Value} {T : TypeId} (ho : Own w b c T) (h : w.ownsRow base e size v nn xs) (hb : b < base) (hg : w.grownBy w' v.ownBlock) : Own w' b c T :=
  ho.step (F := fun k => v.ownBlock = some k) (Step.of_grown hg fun k hk _ => hk) (fun hk => by have := (h.lt b hk).1; omega)
theorem row_no {w w' : World} {base e size nn : Nat} {v : Value} {xs : List Value} (h : w.ownsRow base e size v nn xs) (hs : Step No w w') : w'.ownsRow base e size v nn xs := by
  refine ⟨h.1, ?_⟩
  rcases h.2 with hn | ⟨g, cap, cur, hv, hb, hg, rest⟩
  · exact .inl hn
  · exact .inr ⟨g, cap, cur, hv, hb, (hs.block g (Array.getElem?_eq_some_iff.1 hg).1 id).trans hg, rest⟩
end
end Go.Vc
end

section
/- The calculus' eleventh part: ranges over a function. -/
set_option linter.unusedVariables false
set_option linter.unusedSimpArgs false
namespace Go.Vc
open Go.RowKit

/-! ### 1. The block of a loop's deferred calls, and the marks among a frame's -/
def Dfr (w : World) (D : Nat) : Prop := w.heap[D]? = some (.deferred (some []))
section
variable {F : Nat → Prop} {w w' : World} {D : Nat}
theorem Dfr.lt (h : Dfr w D) : D < w.heap.size := (Array.getElem?_eq_some_iff.1 h).1
theorem Dfr.step (h : Dfr w D) (hs : Step F w w') (hF : ¬ F D) : Dfr w' D := (hs.block D h.lt hF).trans h
theorem Dfr.no (h : Dfr w D) (hs : Step No w w') : Dfr w' D := h.step hs id
end
def markOf (D : Nat) : Deferred := { target := .collected D, args := #[] }
theorem putObj_step {w : World} {b : Nat} (o : Obj) : Step (Just b) w (w.putObj b o) :=
  ⟨rfl, rfl, rfl, by simp, fun k hk hne => World.putObj_heap_other (fun e => hne e)⟩
theorem putObj_size {w : World} {b : Nat} (o : Obj) : (w.putObj b o).heap.size = w.heap.size := by simp

/-! ### 2. A call of yield -/
def YV (P : Program) (L : Nat) (args : Array Value) (w : World) (R : Value → World → Prop) : Prop :=
  ∃ fn tmps assign body, (Instr.yield L args).run P w = .ok (.round L fn tmps assign body) w ∧ RoundIn (Fx none) 0 P L fn tmps assign body w fun e w' => ∃ v, e = .returned v ∧ R v w'
theorem YV.mono {P : Program} {L : Nat} {args : Array Value} {w : World} {R R' : Value → World → Prop} (h : YV P L args w R) (hr : ∀ v w', R v w' → R' v w') : YV P L args w R' := by
  obtain ⟨fn, tmps, assign, body, h1, h2⟩ := h
  exact ⟨fn, tmps, assign, body, h1, h2.mono fun e w' ⟨v, he, hR⟩ => ⟨v, he, hr v w' hR⟩⟩

section
variable {r : Option Nat} {n : Nat} {ds : List Deferred} {P : Program} {ops : Array Oper} {Q : Exit → Act → World → Prop} {l : List (Nat × Value)} {w : World} {i : Nat}
def yieldOp (ops : Array Oper) (l : List (Nat × Value)) (i : Nat) : Option (Nat × Nat × Array Value) :=
  match ops[i]? with
  | none => none
  | some o =>
    match guardOk ops l o, listed l o, o.dst, o.op with
    | some true, true, some d, .call { callee := .value f, args, .. } =>
      match evL l f with
      | .func (.yield L) first captured => some (d, L, first ++ args.map (evL l))
      | _ => none
    | _, _, _, _ => none

theorem V1_yield {d L : Nat} {args : Array Value} {S : Value → World → Prop} (h : yieldOp ops l i = some (d, L, args)) (hd : Nat.blt d n = true)
    (hcall : YV P L args w S) {K : List (Nat × Value) → World → Prop} (next : ∀ v w', S v w' → K ((d, v) :: l) w') :
    V1 none n ds P ops Q i l w K := by
  unfold yieldOp at h
  cases ho : ops[i]? with
  | none => rw [ho] at h; cases h
  | some o =>
    rw [ho] at h
    simp only at h
    cases hg : guardOk ops l o with
    | none => rw [hg] at h; simp at h
    | some b =>
      cases b with
      | false => rw [hg] at h; simp at h
      | true =>
        cases hl : listed l o with
        | false => rw [hg, hl] at h; simp at h
        | true =>
          cases hdst : o.dst with
          | none => rw [hg, hl, hdst] at h; simp at h
          | some d' =>
            rw [hg, hl, hdst] at h
            cases hop : o.op <;> simp only [hop, reduceCtorEq] at h
            case call cl =>
              obtain ⟨callee, cargs, ts⟩ := cl
              cases callee <;> (try (simp at h; done))
              case value x =>
                cases hx : evL l x <;> simp only [hx, reduceCtorEq] at h
                case func fn first captured =>
                  cases fn <;> simp only [reduceCtorEq, Option.some.injEq, Prod.mk.injEq] at h
                  case yield L' =>
                    obtain ⟨rfl, rfl, hargs⟩ := h
                    obtain ⟨fn', tmps, assign, body, hy, hR⟩ := hcall
                    refine V1_run ho hg hl fun a ha => ?_
                    have hrun : (execOp (evL l) o).run P w = .ok (.round L' fn' tmps assign body) w := by
                      simp only [execOp, hop, resolve, hx, Deferred.ofValue, Sem.run_bind, Sem.run_pure, Result.andThen_ok, invoke]
                      rw [hargs]; exact hy
                    rw [hrun]
                    refine ⟨(fun hd => by cases hd), ?_⟩
                    refine RoundIn.mono hR ?_
                    rintro e w' ⟨v, rfl, hS⟩
                    exact ⟨_, by rw [hdst]; exact ha.put _ (blt_spec hd) _, next v w' hS⟩
theorem VL_yield {d L : Nat} {args : Array Value} {S : Value → World → Prop} (h : yieldOp ops l i = some (d, L, args)) (hd : Nat.blt d n = true) (hi : Nat.blt i ops.size = true)
    (hcall : YV P L args w S) (next : ∀ v w', S v w' → VL none n ds P ops Q (i + 1) ((d, v) :: l) w') :
    VL none n ds P ops Q i l w := VL_of_V1 hi (V1_yield h hd hcall next)
end

/-! ### 3. An iterator's contract: what it hands to yield is told beforehand -/
/-- W0: the world at its call. Rd: what it reads lies there still. J M k: k rounds are over; what was laid before the first one lies below M. -/
def IterC (P : Program) (gf : Nat) (lb : Array Value) (xs : List (Array Value)) (Rd : Nat → World → Prop) : Prop :=
  ∀ (L : Nat) (W0 : World) (J Jx : Nat → Nat → World → Prop),
    (∀ M k W W', J M k W → Step No W W' → J M k W') → (∀ M k W W', Jx M k W → Step No W W' → Jx M k W') → (∀ M k W, J M k W → Rd k W) → Rd 0 W0 →
    (∀ M W, W0.heap.size ≤ M → M ≤ W.heap.size → Step No W0 W → J M 0 W) →
    (∀ M k W args, W0.heap.size ≤ M → M ≤ W.heap.size → xs[k]? = some args → J M k W → YV P L args W fun v W' => Step (fun i => i < W0.heap.size ∨ M ≤ i) W W' ∧ (v = .bool true ∧ J M (k + 1) W' ∨ v = .bool false ∧ Jx M (k + 1) W')) →
    CV P gf (#[.func (.yield L) #[] #[]] ++ lb) W0 fun _ W' => ∃ M, W0.heap.size ≤ M ∧ (J M xs.length W' ∨ ∃ k, k ≤ xs.length ∧ Jx M k W')

/-! ### 4. The statement -/
section
variable {r : Option Nat} {n : Nat} {ds : List Deferred} {P : Program} {Q : Exit → Act → World → Prop} {l : List (Nat × Value)} {w : World}

def codeExit : Code → Option Exit
  | .ret => some .ret
  | .exit id => some (.exit id)
  | _ => none

/-- How a round may be left: W3: the world at its body's start. -/
def RoundQ (Fb : Nat → Prop) (J : World → Prop) (Jx : Exit → World → Prop) (W3 : World) : Exit → Act → World → Prop
  | .normal, _, w' => Step Fb W3 w' ∧ J w'
  | .exit id, _, w' => Step Fb W3 w' ∧ Jx (.exit id) w'
  | .ret, _, w' => Step Fb W3 w' ∧ Jx .ret w'
  | _, _, _ => False
/-- Behind the assignments to the loop's left sides. -/
def AsgQ (P : Program) (L : Nat) (body : Code) (Qr : World → Exit → Act → World → Prop) (W : World) : Exit → Act → World → Prop
  | .normal, a, w2 => Step No W w2 ∧ ∀ w3, Step (Just L) w2 w3 → w3.heap.size = w2.heap.size → body.wpIn (Fx (some L)) 0 P (Qr w3) a w3
  | _, _, _ => False
theorem VQ_begin {L : Nat} {body : Code} {Qr : World → Exit → Act → World → Prop} {W : World} (hs : Step No W w) (h : ∀ w3, Step (Just L) w w3 → w3.heap.size = w.heap.size → VC (some L) n ds P (Qr w3) body l w3) :
    VQ n ds (AsgQ P L body Qr W) .normal l w := fun a ha => ⟨hs, fun w3 h3 hz => h w3 h3 hz a ha⟩
theorem VQ_round_end {Fb : Nat → Prop} {J : World → Prop} {Jx : Exit → World → Prop} {W3 : World} (hs : Step Fb W3 w) (hJ : J w) : VQ n ds (RoundQ Fb J Jx W3) .normal l w := fun _ _ => ⟨hs, hJ⟩
theorem VQ_round_exit {Fb : Nat → Prop} {J : World → Prop} {Jx : Exit → World → Prop} {W3 : World} {id : Nat} (hs : Step Fb W3 w) (hJ : Jx (.exit id) w) : VQ n ds (RoundQ Fb J Jx W3) (.exit id) l w := fun _ _ => ⟨hs, hJ⟩
theorem VQ_round_ret {Fb : Nat → Prop} {J : World → Prop} {Jx : Exit → World → Prop} {W3 : World} (hs : Step Fb W3 w) (hJ : Jx .ret w) : VQ n ds (RoundQ Fb J Jx W3) .ret l w := fun _ _ => ⟨hs, hJ⟩

theorem zip_foldl {ps : List Nat} {vs : List Value} {t : Array Value} {l : List (Nat × Value)} (hn : t.size = n) (ht : ∀ k v, look l k = some v → t[k]? = some v) (hps : ∀ p ∈ ps, p < n) :
    ((ps.zip vs).foldl (fun t (x : Nat × Value) => t.setIfInBounds x.1 x.2) t).size = n ∧ ∀ k v, look ((ps.zip vs).reverse ++ l) k = some v → ((ps.zip vs).foldl (fun t (x : Nat × Value) => t.setIfInBounds x.1 x.2) t)[k]? = some v := by
  induction ps generalizing vs t l with
  | nil => exact ⟨by simpa using hn, by simpa using ht⟩
  | cons p ps ih =>
    cases vs with
    | nil => exact ⟨by simpa using hn, by simpa using ht⟩
    | cons v vs =>
      have := ih (vs := vs) (t := t.setIfInBounds p v) (l := (p, v) :: l) (by simpa using hn) (by
        intro k u hk
        simp only [look] at hk
        cases e : Nat.beq p k with
        | true =>
          rw [e] at hk; cases hk
          have : p = k := Nat.eq_of_beq_eq_true e
          subst this
          rw [Array.getElem?_setIfInBounds_self_of_lt (by rw [hn]; exact hps _ (by simp))]
        | false =>
          rw [e] at hk
          rw [Array.getElem?_setIfInBounds_ne (Nat.ne_of_beq_eq_false e)]
          exact ht k u hk) (fun q hq => hps q (by simp [hq]))
      refine ⟨this.1, ?_⟩
      intro k u hk
      refine this.2 k u ?_
      simpa [List.append_assoc] using hk

theorem VC_range {g : Operand} {ps : Array Tmp} {assign body : Code} {gf : Nat} {lb : Array Value} {xs : List (Array Value)} {Rd : Nat → World → Prop} (hg : opV l g = some (.func (.func gf) #[] lb))
    (eg : ∀ (args : Array Value) (w : World), (callFunc gf args).run P w = .ok (.enter gf args) w) (hc : IterC P gf lb xs Rd) (hps : ∀ a ∈ xs, a.size = ps.size) (hpn : ps.toList.all (fun p => Nat.blt p n) = true)
    (Fb : Nat → Nat → Prop) (hFb : ∀ M i, Fb M i → i < w.heap.size ∨ M ≤ i) (J : Nat → Nat → World → Prop) (Jx : Exit → World → Prop)
    (hJ : ∀ M k W W', J M k W → Step (Just (w.heap.size + 1)) W W' → J M k W') (hJx : ∀ e W W', Jx e W → Step (Just (w.heap.size + 1)) W W' → Jx e W')
    (hJn : ∀ M k W W', J M k W → Step No W W' → J M k W') (hJxn : ∀ e W W', Jx e W → Step No W W' → Jx e W')
    (hrd : ∀ M k W, J M k W → Rd k W) (hrd0 : ∀ W, Step No w W → Rd 0 W)
    (h0 : ∀ M W, w.heap.size + 2 ≤ M → M ≤ W.heap.size → Step No w W → Dfr W w.heap.size → J M 0 W)
    (hround : ∀ M k W args, w.heap.size + 2 ≤ M → M ≤ W.heap.size → xs[k]? = some args → J M k W → w.heap.size + 1 < W.heap.size →
      VC (some (w.heap.size + 1)) n [] P (AsgQ P (w.heap.size + 1) body (RoundQ (Fb M) (J M (k + 1)) Jx) W) assign ((ps.toList.zip args.toList).reverse ++ l) W)
    (hdone : ∀ M W, w.heap.size + 2 ≤ M → w.heap.size + 2 ≤ W.heap.size → J M xs.length W → Dfr W w.heap.size → VQ n (markOf w.heap.size :: ds) Q .normal l W)
    (hstop : ∀ e W, w.heap.size + 2 ≤ W.heap.size → Jx e W → Dfr W w.heap.size → VQ n (markOf w.heap.size :: ds) Q e l W) :
    VC none n ds P Q (.rangeFunc g ps assign body) l w := by
  intro a ha
  have hev := opV_spec ha hg
  refine wpIn_rangeFunc ?_
  intro fn hfn
  obtain ⟨rec, hrec⟩ : ∃ rec : LoopState → Option Code → Loop, rec = fun st pe => { state := st, pending := pe, fn, tmps := a.tmps, params := ps, assign, body, defers := w.heap.size } := ⟨_, rfl⟩
  obtain ⟨W1, hW1⟩ : ∃ W1, (w.alloc (.deferred (some []))).alloc (.loop (rec .ready none)) = W1 := ⟨_, rfl⟩
  have hz1 : W1.heap.size = w.heap.size + 2 := by rw [← hW1]; simp
  have hL1 : W1.heap[w.heap.size + 1]? = some (.loop (rec .ready none)) := by
    rw [← hW1]; have := World.alloc_heap_new (w.alloc (.deferred (some []))) (.loop (rec .ready none)); rwa [World.size_alloc] at this
  have hK1 : Dfr W1 w.heap.size := by
    unfold Dfr; rw [← hW1]; exact (Below.heap_alloc _ _ _ (by simp)).trans (World.alloc_heap_new w _)
  have hs1 : Step No w W1 := by
    rw [← hW1]
    exact ⟨rfl, rfl, rfl, by simp; omega, fun k hk _ => (Below.heap_alloc _ _ _ (by simp; omega)).trans (Below.heap_alloc _ _ _ hk)⟩
  refine ⟨w.heap.size + 1, [markOf w.heap.size], W1, { target := .fn (.func gf) lb, args := #[.func (.yield (w.heap.size + 1)) #[] #[]] }, W1, gf,
    #[.func (.yield (w.heap.size + 1)) #[] #[]] ++ lb, W1, ?_, ?_, ?_, ?_, (fun hd => by cases hd), ?_⟩
  · rw [← hW1, hrec]; exact run_enterLoop_outer _ _ _ _ _
  · simp only [resolve, hev]
    simp [go_sem]
  · intro f' _; exact trivial
  · simp [invoke, go_sem, eg]
  · have hstepL : ∀ {W : World} (o : Obj), Step (Just (w.heap.size + 1)) W (W.putObj (w.heap.size + 1) o) := fun o => putObj_step o
    refine callsIn_Fx ?_
    refine Calls.mono (hc (w.heap.size + 1) W1
      (fun M k W => J M k W ∧ W.heap[w.heap.size + 1]? = some (.loop (rec .ready none)) ∧ Dfr W w.heap.size ∧ M ≤ W.heap.size)
      (fun M k W => ∃ c e, codeExit c = some e ∧ Jx e W ∧ W.heap[w.heap.size + 1]? = some (.loop (rec .done (some c))) ∧ Dfr W w.heap.size) ?_ ?_ ?_ ?_ ?_ ?_) ?_
    · rintro M k W W' ⟨hj, hl, hk, hm⟩ hs
      exact ⟨hJn M k W W' hj hs, (hs.no (Array.getElem?_eq_some_iff.1 hl).1).trans hl, hk.no hs, Nat.le_trans hm hs.size⟩
    · rintro M k W W' ⟨c, e, hce, hj, hl, hk⟩ hs
      exact ⟨c, e, hce, hJxn e W W' hj hs, (hs.no (Array.getElem?_eq_some_iff.1 hl).1).trans hl, hk.no hs⟩
    · rintro M k W ⟨hj, _⟩; exact hrd M k W hj
    · exact hrd0 W1 hs1
    · intro M W hM hM2 hs
      rw [hz1] at hM
      exact ⟨h0 M W hM hM2 (hs1.trans hs) (hK1.no hs), (hs.no (by omega)).trans hL1, hK1.no hs, hM2⟩
    · rintro M k W args hM hM2 hx ⟨hj, hl, hk, hm⟩
      rw [hz1] at hM
      have hmem : args ∈ xs := List.mem_of_getElem? hx
      have hy := run_yield (P := P) (args := args) hl (by rw [hrec]; exact hps args hmem)
      rw [hrec] at hy
      have hlt : w.heap.size + 1 < W.heap.size := (Array.getElem?_eq_some_iff.1 hl).1
      refine ⟨fn, _, assign, body, hy, roundIn_of_wpIn hfn ?_⟩
      have hz := zip_foldl (n := n) (ps := ps.toList) (vs := args.toList) (t := a.tmps) (l := l) ha.size ha.get (fun p hp => blt_spec (List.all_eq_true.1 hpn p hp))
      have hfold : ((ps.zip args).foldl (fun tmps (x : Tmp × Value) => tmps.setIfInBounds x.1 x.2) a.tmps) = ((ps.toList.zip args.toList).foldl (fun t (x : Nat × Value) => t.setIfInBounds x.1 x.2) a.tmps) := by
        rw [← Array.foldl_toList, Array.toList_zip]
      refine wpIn_mono (hround M k W args hM hM2 hx hj hlt { tmps := _, defers := [] } ⟨by rw [hfold]; exact hz.1, rfl, fun t v ht => by rw [hfold]; exact hz.2 t v ht⟩) ?_
      rintro e a2 w2 hq
      cases e <;> (try exact hq.elim)
      obtain ⟨hs2, hq⟩ := hq
      have hl2 : w2.heap[w.heap.size + 1]? = some (.loop (rec .ready none)) := (hs2.no hlt).trans hl
      have hlt2 : w.heap.size + 1 < w2.heap.size := (Array.getElem?_eq_some_iff.1 hl2).1
      have hk2 := hk.no hs2
      obtain ⟨W3, hW3⟩ : ∃ W3, w2.putObj (w.heap.size + 1) (.loop { rec .ready none with state := .busy }) = W3 := ⟨_, rfl⟩
      have hs3 : Step (Just (w.heap.size + 1)) w2 W3 := hW3 ▸ putObj_step _
      have hz3 : W3.heap.size = w2.heap.size := by rw [← hW3]; exact putObj_size _
      have hl3 : W3.heap[w.heap.size + 1]? = some (.loop { rec .ready none with state := .busy }) := by rw [← hW3]; exact World.putObj_heap_same hlt2
      have hk3 : Dfr W3 w.heap.size := hk2.step hs3 (by simp)
      refine ⟨W3, by rw [← hW3]; exact run_beginRound hl2 (by rw [hrec]), ?_⟩
      refine wpIn_mono (hq W3 hs3 hz3) ?_
      have hgrow : W.heap.size ≤ W3.heap.size := by have := hs2.size; omega
      have fin : ∀ (jump : Option Code) (W4 : World), Step (Fb M) W3 W4 →
          (Instr.endRound (w.heap.size + 1) jump).run P W4 = .ok (.bool jump.isNone) (W4.putObj (w.heap.size + 1) (.loop (rec (if jump.isNone then .ready else .done) jump))) ∧
          (W4.putObj (w.heap.size + 1) (.loop (rec (if jump.isNone then .ready else .done) jump))).heap[w.heap.size + 1]? = some (.loop (rec (if jump.isNone then .ready else .done) jump)) ∧
          Dfr (W4.putObj (w.heap.size + 1) (.loop (rec (if jump.isNone then .ready else .done) jump))) w.heap.size ∧
          Step (fun i => i < W1.heap.size ∨ M ≤ i) W (W4.putObj (w.heap.size + 1) (.loop (rec (if jump.isNone then .ready else .done) jump))) ∧
          M ≤ (W4.putObj (w.heap.size + 1) (.loop (rec (if jump.isNone then .ready else .done) jump))).heap.size := fun jump W4 hs4 => by
        have hnL : ¬ Fb M (w.heap.size + 1) := fun h => by have := hFb _ _ h; omega
        have hnD : ¬ Fb M w.heap.size := fun h => by have := hFb _ _ h; omega
        have hl4 : W4.heap[w.heap.size + 1]? = some (.loop { rec .ready none with state := .busy }) := (hs4.block _ (by omega) hnL).trans hl3
        have hk4 : Dfr W4 w.heap.size := hk3.step hs4 hnD
        have hr := run_endRound (P := P) jump hl4
        have hlt4 := (Array.getElem?_eq_some_iff.1 hl4).1
        rw [hrec] at hr ⊢
        refine ⟨hr, World.putObj_heap_same hlt4, hk4.step (putObj_step _) (by simp), ?_, by rw [putObj_size]; have := hs4.size; omega⟩
        refine Step.trans (hs2.weak) (Step.trans (hs3.mono fun i hi => .inl (by rw [hz1]; have : i = w.heap.size + 1 := hi; omega)) (Step.trans (hs4.mono fun i hi => ?_) ((putObj_step _).mono fun i hi => .inl (by rw [hz1]; have : i = w.heap.size + 1 := hi; omega))))
        rcases hFb M i hi with h | h
        · exact .inl (by omega)
        · exact .inr h
      rintro e a3 W4 hp
      cases e with
      | normal =>
        obtain ⟨hs4, hj4⟩ := hp
        obtain ⟨hr, hl5, hk5, hs5, hm5⟩ := fin none W4 hs4
        exact ⟨_, _, hr, _, rfl, hs5, .inl ⟨rfl, hJ _ _ _ _ hj4 (putObj_step _), hl5, hk5, hm5⟩⟩
      | ret =>
        obtain ⟨hs4, hj4⟩ := hp
        obtain ⟨hr, hl5, hk5, hs5, hm5⟩ := fin (some .ret) W4 hs4
        exact ⟨_, _, hr, _, rfl, hs5, .inr ⟨rfl, .ret, .ret, rfl, hJx _ _ _ hj4 (putObj_step _), hl5, hk5⟩⟩
      | exit id =>
        obtain ⟨hs4, hj4⟩ := hp
        obtain ⟨hr, hl5, hk5, hs5, hm5⟩ := fin (some (.exit id)) W4 hs4
        exact ⟨_, _, hr, _, rfl, hs5, .inr ⟨rfl, .exit id, .exit id, rfl, hJx _ _ _ hj4 (putObj_step _), hl5, hk5⟩⟩
      | goto t => exact hp.elim
      | panic ch => exact hp.elim
      | outgrown => exact hp.elim
    · rintro e W2 ⟨v, rfl, M, hM, (⟨hj, hl, hk, hm⟩ | ⟨k, hkl, c, e', hce, hj, hl, hk⟩)⟩
      · rw [hz1] at hM
        have hlt := (Array.getElem?_eq_some_iff.1 hl).1
        refine ⟨none, _, by have := run_endLoop (P := P) hl (by rw [hrec]; simp); rw [hrec] at this; exact this, ?_⟩
        exact hdone M _ hM (by rw [putObj_size]; omega) (hJ _ _ _ _ hj (putObj_step _)) (hk.step (putObj_step _) (by simp)) _ ⟨ha.size, by simp [ha.defers], ha.get⟩
      · have hlt := (Array.getElem?_eq_some_iff.1 hl).1
        refine ⟨some c, _, by have := run_endLoop (P := P) hl (by rw [hrec]; simp); rw [hrec] at this; exact this, ?_⟩
        have hq := hstop e' (W2.putObj (w.heap.size + 1) (.loop { rec .done (some c) with state := .exhausted })) (by rw [putObj_size]; omega) (hJx _ _ _ hj (putObj_step _)) (hk.step (putObj_step _) (by simp)) { a with defers := [markOf w.heap.size] ++ a.defers } ⟨ha.size, by simp [ha.defers], ha.get⟩
        rw [hrec] at hq
        cases c <;> simp only [codeExit, reduceCtorEq, Option.some.injEq] at hce
        · subst hce; exact wpIn_exit hq
        · subst hce; exact wpIn_ret hq

/-! ### 5. The end of a function with marks -/
theorem CV_enterM {f : FuncId} {args : Array Value} {S : Value → World → Prop} (fn : Func) (c : Code) (n : Nat) (l0 : List (Nat × Value)) (hf : P.funcs[f]? = some fn) (hb : fn.body = some c)
    (hn : fn.ntmps = n) (ha : Nat.ble args.toList.length n = true) (hl : zipArgs 0 args.toList = l0) (h : VC none n [] P (bodyPostM (Fx none) 0 P fn (PostV S)) c l0 w) : CV P f args w S := by
  refine (callsIn_wide (n := 0)).1 (callsIn_of_wp_marks hf hb trivial ?_)
  refine h _ ⟨?_, rfl, fun t v hv => ?_⟩
  · have := Nat.le_of_ble_eq_true ha
    simp at this
    simp [hn]
    omega
  · rw [← hl] at hv
    obtain ⟨_, h2⟩ := look_zipArgs _ _ _ _ hv
    simp only [Nat.sub_zero, Array.getElem?_toList] at h2
    obtain ⟨hlt, _⟩ := Array.getElem?_eq_some_iff.1 h2
    rw [Array.getElem?_append_left hlt]
    exact h2

/-- The marks' blocks lie there, each once. -/
def Marks : List Nat → World → Prop
  | [], _ => True
  | D :: Ds, w => Dfr w D ∧ D ∉ Ds ∧ Marks Ds w
theorem Marks.step {F : Nat → Prop} {w w' : World} : ∀ {Ds : List Nat}, Marks Ds w → Step F w w' → (∀ D ∈ Ds, ¬ F D) → Marks Ds w'
  | [], _, _, _ => trivial
  | D :: Ds, h, hs, hF => ⟨h.1.step hs (hF D (by simp)), h.2.1, h.2.2.step hs fun D' hD' => hF D' (by simp [hD'])⟩
theorem leavesM {fn : Func} {tmps : Array Value} {R : Ending → World → Prop} : ∀ (Ds : List Nat) (w : World), Marks Ds w →
    (∀ w', Step (fun i => i ∈ Ds) w w' → ∃ v, (results fn tmps).run P w' = .ok v w' ∧ R (.returned v) w') → LeavesInM (Fx none) 0 P fn tmps R (Ds.map markOf) .returning w
  | [], w, _, h => by
    obtain ⟨v, h1, h2⟩ := h w (Step.refl _ _)
    exact ⟨v, h1, h2⟩
  | D :: Ds, w, hm, h => by
    refine ⟨by simp, .inl ⟨D, w.putObj D (.deferred none), rfl, run_takeDeferred hm.1, ?_⟩⟩
    refine leavesM Ds _ (hm.2.2.step (putObj_step _) (fun D' hD' e => hm.2.1 (by rw [← show D' = D from e]; exact hD'))) fun w' hs => h w' ?_
    exact Step.trans ((putObj_step _).mono fun i hi => by simp [show i = D from hi]) (hs.mono fun i hi => by simp [hi])
theorem VQ_retM1 {fn : Func} {S : Value → World → Prop} {t : Nat} (v : Value) (Ds : List Nat) {e : Exit} (he : e = .normal ∨ e = .ret) (hr : fn.results = #[.tmp t]) (hv : look l t = some v) (hm : Marks Ds w) (hS : ∀ w', Step (fun i => i ∈ Ds) w w' → S v w') :
    VQ n (Ds.map markOf) (bodyPostM (Fx none) 0 P fn (PostV S)) e l w := by
  intro a ha
  have : LeavesInM (Fx none) 0 P fn a.tmps (PostV S) a.defers .returning w := by
    rw [ha.defers]
    exact leavesM Ds w hm fun w' hs => ⟨v, by rw [results_tmp hr]; simp [Array.getD_eq_getD_getElem?, ha.get t v hv], v, rfl, hS w' hs⟩
  rcases he with rfl | rfl <;> exact this
theorem VQ_retMC1 {fn : Func} {S : Value → World → Prop} {t : Nat} {T : TypeId} {a : Addr} (v : Value) (Ds : List Nat) {e : Exit} (he : e = .normal ∨ e = .ret) (hr : fn.results = #[.cell t T]) (ha' : look l t = some (.pointer (some a))) (hm : Marks Ds w)
    (hv : ∀ w', Step (fun i => i ∈ Ds) w w' → Loads P T w' a v) (hS : ∀ w', Step (fun i => i ∈ Ds) w w' → S v w') :
    VQ n (Ds.map markOf) (bodyPostM (Fx none) 0 P fn (PostV S)) e l w := by
  intro b hb
  have : LeavesInM (Fx none) 0 P fn b.tmps (PostV S) b.defers .returning w := by
    rw [hb.defers]
    exact leavesM Ds w hm fun w' hs => ⟨v, by simp [results, hr, Array.getD_eq_getD_getElem?, hb.get t _ ha', Sem.run_bind]; exact hv w' hs, v, rfl, hS w' hs⟩
  rcases he with rfl | rfl <;> exact this
end
end Go.Vc
end

section
/- The calculus' twelfth part: slices as lists: what lies there is told by a list; views, rows of one's own, arrays. -/
set_option linter.unusedVariables false
set_option linter.unusedSimpArgs false
namespace Go.Vc
open Go.RowKit

def iL (k : IntKind) (bs : List Int) : List Value := bs.map (Value.int k)
def iA (k : IntKind) (bs : List Int) : Array Value := (iL k bs).toArray
section
variable {k : IntKind} {bs bs' : List Int}
@[simp] theorem iL_length : (iL k bs).length = bs.length := by simp [iL]
@[simp] theorem iA_size : (iA k bs).size = bs.length := by simp [iA]
theorem iL_get (j : Nat) (h : j < bs.length) : (iL k bs)[j]? = some (.int k (bs.getD j 0)) := by
  simp [iL, List.getD, List.getElem?_eq_getElem h]
theorem iA_get (j : Nat) (h : j < bs.length) : (iA k bs)[j]? = some (.int k (bs.getD j 0)) := by
  rw [← iL_get j h]; simp [iA]
theorem iL_append : iL k (bs ++ bs') = iL k bs ++ iL k bs' := by simp [iL]
theorem iL_set (j : Nat) (v : Int) : iL k (bs.set j v) = (iL k bs).set j (.int k v) := by simp [iL, List.map_set]
theorem iL_take (j : Nat) : iL k (bs.take j) = (iL k bs).take j := by simp [iL]
theorem iL_drop (j : Nat) : iL k (bs.drop j) = (iL k bs).drop j := by simp [iL]
theorem iL_one : ∀ u ∈ iL k bs, oneC u = true := by
  intro u hu
  obtain ⟨x, _, rfl⟩ := List.mem_map.1 hu
  rfl
theorem iA_set (j : Nat) (v : Int) (h : j < bs.length) : setRow (iA k bs) j [.int k v] = iA k (bs.set j v) := by
  apply Array.ext_getElem?
  intro q
  rw [getElem?_setRow _ _ _ (by simp; omega)]
  simp only [List.length_singleton, iA, iL_set, List.getElem?_toArray]
  rw [List.getElem?_set]
  by_cases hq : q = j
  · subst hq; simp [h]
  · rw [if_neg (by omega), if_neg (fun e => hq e.symm)]
theorem iL_inj : iL k bs = iL k bs' ↔ bs = bs' := by
  constructor
  · intro h
    induction bs generalizing bs' with
    | nil => cases bs' <;> simp_all [iL]
    | cons x r ih => cases bs' with
      | nil => simp [iL] at h
      | cons y q => simp only [iL, List.map_cons, List.cons.injEq, Value.int.injEq, true_and] at h; rw [h.1, ih h.2]
  · rintro rfl; rfl
end

/-! ### 1. A view: what lies at a slice's address, all of it below B -/
def Sl (w : World) (B : Nat) (A : Option Addr) (xs : List Value) : Prop :=
  0 < xs.length → ∃ b o, A = some ⟨b, o, none⟩ ∧ b < B ∧ ∀ j u, xs[j]? = some u → w.cell? ⟨b, o + j, none⟩ = some u
section
variable {F : Nat → Prop} {w w' : World} {B B' : Nat} {A : Option Addr} {xs ys : List Value} {P : Program}
theorem Sl.nil : Sl w B A [] := fun h => by simp at h
theorem Sl.step (h : Sl w B A xs) (hs : Step F w w') (hF : ∀ k, k < B → ¬ F k) : Sl w' B A xs := by
  intro h0
  obtain ⟨b, o, hA, hb, hc⟩ := h h0
  exact ⟨b, o, hA, hb, fun j u hu => hs.cell (hF b hb) (hc j u hu)⟩
theorem Sl.no (h : Sl w B A xs) (hs : Step No w w') : Sl w' B A xs := h.step hs fun _ _ => id
theorem Sl.mono (h : Sl w B A xs) (hB : B ≤ B') : Sl w B' A xs := by
  intro h0
  obtain ⟨b, o, hA, hb, hc⟩ := h h0
  exact ⟨b, o, hA, by omega, hc⟩
theorem Sl.cast (h : Sl w B A xs) (e : xs = ys) : Sl w B A ys := e ▸ h
theorem Sl.open (h : Sl w B A xs) (h0 : 0 < xs.length) : ∃ b o, A = some ⟨b, o, none⟩ ∧ b < B := by
  obtain ⟨b, o, hA, hb, _⟩ := h h0
  exact ⟨b, o, hA, hb⟩
theorem Sl.get {b o : Nat} (h : Sl w B (some ⟨b, o, none⟩) xs) (j : Nat) (u : Value) (hu : xs[j]? = some u) : w.cell? ⟨b, o + j, none⟩ = some u := by
  obtain ⟨hlt, _⟩ := List.getElem?_eq_some_iff.1 hu
  obtain ⟨b', o', hA, _, hc⟩ := h (by omega)
  cases hA
  exact hc j u hu
theorem Sl.ld {b o : Nat} {t : TypeId} {u : Value} (h : Sl w B (some ⟨b, o, none⟩) xs) (ht : oneB P t = true) (j : Nat) (hu : xs[j]? = some u) : Loads P t w ⟨b, o + j, none⟩ u := Loads.one ht (h.get j u hu)
theorem Sl.ld0 {b : Nat} {t : TypeId} {u : Value} (h : Sl w B (some ⟨b, 0, none⟩) xs) (ht : oneB P t = true) (j : Nat) (hu : xs[j]? = some u) : Loads P t w ⟨b, j, none⟩ u := by
  have := h.ld ht j hu
  rwa [Nat.zero_add] at this
theorem Sl.sub {b o : Nat} (h : Sl w B (some ⟨b, o, none⟩) xs) (L M : Nat) : Sl w B (some ⟨b, o + L, none⟩) ((xs.drop L).take M) := by
  intro h0
  obtain ⟨b', o', hA, hb, hc⟩ := h (by simp at h0; omega)
  cases hA
  refine ⟨b, o + L, rfl, hb, fun j u hu => ?_⟩
  rw [List.getElem?_take] at hu
  split at hu
  · rw [List.getElem?_drop] at hu
    have := hc (L + j) u hu
    rwa [← Nat.add_assoc] at this
  · cases hu
theorem Own.sl {b : Nat} {c : Array Value} {e : TypeId} (h : Own w b c e) (hB : b < B) : Sl w B (some ⟨b, 0, none⟩) c.toList := by
  intro _
  refine ⟨b, 0, rfl, hB, fun j u hu => ?_⟩
  rw [Nat.zero_add, h.cell]
  simpa using hu
end

theorem Sl.keepB {F : Nat → Prop} {w w' : World} {B b o : Nat} {xs : List Value} (h : Sl w B (some ⟨b, o, none⟩) xs) (hs : Step F w w') (hF : ¬ F b) : Sl w' B (some ⟨b, o, none⟩) xs := by
  intro h0
  obtain ⟨b', o', hA, hb, hc⟩ := h h0
  cases hA
  exact ⟨b, o, rfl, hb, fun j u hu => hs.cell hF (hc j u hu)⟩
theorem Sl.cut {w : World} {B b o o' L H M : Nat} {xs : List Value} (h : Sl w B (some ⟨b, o, none⟩) xs) (ho : (if M = L then o else o + L * 1) = o') (hM : H ≤ M) : Sl w B (some ⟨b, o', none⟩) ((xs.drop L).take (H - L)) := by
  by_cases e : M = L
  · rw [show H - L = 0 by omega, List.take_zero]; exact Sl.nil
  · rw [if_neg e, Nat.mul_one] at ho
    rw [← ho]
    exact h.sub L (H - L)
theorem Sl.take {w : World} {B : Nat} {A : Option Addr} {xs : List Value} (h : Sl w B A xs) (m : Nat) : Sl w B A (xs.take m) := by
  intro h0
  obtain ⟨b, o, hA, hb, hc⟩ := h (by simp at h0; omega)
  exact ⟨b, o, hA, hb, fun j u hu => hc j u (by rw [List.getElem?_take] at hu; split at hu <;> simp_all)⟩
theorem Sl.takeI {w : World} {B : Nat} {A : Option Addr} {k : IntKind} {bs : List Int} (h : Sl w B A (iL k bs)) (m : Nat) : Sl w B A (iL k (bs.take m)) := by rw [iL_take]; exact h.take m
theorem Sl.cutI {w : World} {B b o o' L H M : Nat} {k : IntKind} {bs : List Int} (h : Sl w B (some ⟨b, o, none⟩) (iL k bs)) (ho : (if M = L then o else o + L * 1) = o') (hM : H ≤ M) : Sl w B (some ⟨b, o', none⟩) (iL k ((bs.drop L).take (H - L))) := by
  rw [iL_take, iL_drop]; exact h.cut ho hM
theorem tdiv_nat (a c : Nat) : ((a : Int).tdiv (c : Int)) = ((a / c : Nat) : Int) := (Int.ofNat_tdiv a c).symm
theorem tmod_nat (a c : Nat) : ((a : Int).tmod (c : Int)) = ((a % c : Nat) : Int) := (Int.ofNat_tmod a c).symm

/-! ### 2. A row of one's own, of elements of one cell -/
def Rw (w : World) (base : Nat) (e : TypeId) (A : Option Addr) (n c : Nat) (xs : List Value) : Prop := w.ownsRow base e 1 (.slice A n c) n xs
section
variable {F : Nat → Prop} {w w' w0 : World} {B base base' n n' c c' : Nat} {e : TypeId} {A : Option Addr} {xs ys : List Value} {P : Program}
theorem Rw.len (h : Rw w base e A n c xs) : xs.length = n := by have := h.1; omega
theorem Rw.nil (w : World) (base : Nat) (e : TypeId) : Rw w base e none 0 0 [] := World.ownsRow_nil w base e 1
theorem Rw.cast (h : Rw w base e A n c xs) (hn : n = n') (hx : xs = ys) : Rw w base e A n' c ys := by subst hn; subst hx; exact h
theorem Rw.keep (h : Rw w base e A n c xs) (hs : Step F w w') (hF : ∀ k, base ≤ k → ¬ F k) : Rw w' base e A n c xs := by
  refine ⟨h.1, ?_⟩
  rcases h.2 with hn | ⟨g, cap, cur, hv, hb, hg, rest⟩
  · exact .inl hn
  · exact .inr ⟨g, cap, cur, hv, hb, (hs.block g (Array.getElem?_eq_some_iff.1 hg).1 (hF g hb)).trans hg, rest⟩
theorem Rw.step (h : Rw w base e A n c xs) (hs : Step F w w') (hF : ∀ k, base ≤ k → ¬ F k) : Rw w' base e A n c xs := h.keep hs hF
theorem Rw.no (h : Rw w base e A n c xs) (hs : Step No w w') : Rw w' base e A n c xs := h.keep hs fun _ _ => id
theorem Rw.low (h : Rw w base e A n c xs) (hb : base' ≤ base) : Rw w base' e A n c xs := by
  refine ⟨h.1, ?_⟩
  rcases h.2 with hn | ⟨g, cap, cur, hv, hb', rest⟩
  · exact .inl hn
  · exact .inr ⟨g, cap, cur, hv, by omega, rest⟩
theorem Rw.cap (h : Rw w base e A n c xs) : n ≤ c := by
  rcases h.2 with ⟨hv, hn⟩ | ⟨g, cap, cur, hv, hb', _, hc, _⟩
  · cases hv; omega
  · cases hv; exact hc
theorem Rw.sl (h : Rw w base e A n c xs) : Sl w w.heap.size A xs := by
  intro h0
  rcases h.2 with ⟨hv, hn⟩ | ⟨g, cap, cur, hv, hb', hg, _, _, _, ht⟩
  · have := h.1; omega
  · cases hv
    refine ⟨g, 0, rfl, (Array.getElem?_eq_some_iff.1 hg).1, fun j u hu => ?_⟩
    rw [Nat.zero_add, (show Own w g cur e from hg).cell, ← ht] at *
    rw [List.getElem?_take] at hu
    split at hu
    · simpa using hu
    · cases hu
/-- A row that isn't empty has a block. -/
theorem Rw.open (h : Rw w base e A n c xs) (h0 : 0 < n) : ∃ g cur, A = some ⟨g, 0, none⟩ ∧ base ≤ g ∧ g < w.heap.size ∧ Own w g cur e ∧ cur.size = c ∧ n ≤ c ∧ c ≤ maxLen ∧ cur.toList.take n = xs := by
  rcases h.2 with ⟨hv, hn⟩ | ⟨g, cap, cur, hv, hb', hg, hc, hm, hs, ht⟩
  · omega
  · cases hv
    exact ⟨g, cur, rfl, hb', (Array.getElem?_eq_some_iff.1 hg).1, hg, by simpa using hs, hc, hm, by simpa using ht⟩
theorem Rw.of_own {g : Nat} {cur : Array Value} (ho : Own w g cur e) (hb : base ≤ g) (hs : cur.size = c) (hn : n ≤ c) (hm : c ≤ maxLen) (ht : cur.toList.take n = xs) : Rw w base e (some ⟨g, 0, none⟩) n c xs := by
  refine ⟨?_, .inr ⟨g, c, cur, rfl, hb, ho, hn, hm, by simpa using hs, by simpa using ht⟩⟩
  rw [← ht]; simp; omega
theorem Rw.of_new {g : Nat} {cur : Array Value} (ho : Own w g cur e) (hb : base ≤ g) (hm : cur.size ≤ maxLen) : Rw w base e (some ⟨g, 0, none⟩) cur.size cur.size cur.toList :=
  Rw.of_own ho hb rfl (Nat.le_refl _) hm (List.take_of_length_le (by simp))
theorem Rw.ld {g j : Nat} {t : TypeId} {u : Value} (h : Rw w base e (some ⟨g, 0, none⟩) n c xs) (ht : oneB P t = true) (hu : xs[j]? = some u) : Loads P t w ⟨g, j, none⟩ u := h.sl.ld0 ht j hu
theorem take_setRow {cur : Array Value} {j n : Nat} {v : Value} (hj : j < n) (hn : n ≤ cur.size) : (setRow cur j [v]).toList.take n = (cur.toList.take n).set j v := by
  apply List.ext_getElem?
  intro q
  rw [List.getElem?_take, List.getElem?_set, List.getElem?_take]
  have hg := getElem?_setRow [v] cur j (by simp; omega) q
  rw [← Array.getElem?_toList] at hg
  by_cases hq : j = q
  · subst hq
    rw [if_pos hj, hg]
    simp
    omega
  · have hc : ¬ (j ≤ q ∧ q < j + [v].length) := by
      show ¬ (j ≤ q ∧ q < j + 1)
      omega
    rw [if_neg hc] at hg
    rw [if_neg hq, hg]
    simp
/-- A store into a row. -/
theorem Rw.put {g j : Nat} {cur : Array Value} {v : Value} (hx : cur.toList.take n = xs) (hw : Wr w w' g (setRow cur j [v]) e) (hb : base ≤ g) (hs : cur.size = c) (hn : n ≤ c) (hm : c ≤ maxLen) (hj : j < n) : Rw w' base e (some ⟨g, 0, none⟩) n c (xs.set j v) :=
  Rw.of_own hw.own hb (by rw [size_setRow]; exact hs) hn hm (by rw [take_setRow hj (by omega), hx])
/-- What an append leaves. -/
theorem Rw.of_row {v : Value} (h : w.ownsRow base e 1 v n xs) : ∃ A c, v = .slice A n c ∧ Rw w base e A n c xs := by
  rcases h.2 with ⟨hv, hn⟩ | ⟨g, cap, cur, hv, hb', _⟩
  · subst hv; subst hn; exact ⟨none, 0, rfl, h⟩
  · subst hv; exact ⟨_, _, rfl, h⟩
theorem Rw.grown (h : Rw w base e A n c xs) (hg : w.grownBy w' (Value.slice A n c).ownBlock) : Step (fun k => base ≤ k) w w' :=
  Step.of_grown hg fun k hk _ => (h.lt k hk).1
end

/-! ### 3. append of a slice that may be nil -/
section
variable {r : Option Nat} {n : Nat} {ds : List Deferred} {P : Program} {ops : Array Oper} {Q : Exit → Act → World → Prop} {l : List (Nat × Value)} {w : World} {i : Nat} {K : List (Nat × Value) → World → Prop}
def appOpS (P : Program) (n : Nat) (ops : Array Oper) (l : List (Nat × Value)) (i : Nat) : Option (Nat × TypeId × Option Addr × Nat × Nat × Option Addr × Nat × Nat) :=
  match theOp ops l i with
  | some { dst := some d, op := .call { callee := .builtin .append, args := ags, argTypes := ts }, .. } =>
    match (ts[0]? : Option TypeId), (ts[1]? : Option TypeId), ((ags.map (evL l))[0]? : Option Value), ((ags.map (evL l))[1]? : Option Value) with
    | some t, some t', some (Value.slice A m c), some (Value.slice A2 m2 c2) => match P.underlying t with
      | some (TypeDesc.slice e) => bif Nat.blt d n && Nat.beq t t' && Nat.beq ts.size 2 && Nat.beq ags.size 2 then some (d, e, A, m, c, A2, m2, c2) else none
      | _ => none
    | _, _, _, _ => none
  | _ => none
theorem run_append_empty {t ty e : TypeId} {inf : TypeInfo} (ht : P.underlying t = some (.slice e)) (hi : P.info? e = some inf) (A A2 : Option Addr) (m c c2 : Nat) (hm : m ≤ c) :
    (Builtin.append_ #[t, t] ty #[.slice A m c, .slice A2 0 c2]).run P w = .ok (.slice A m c) w := by
  have hf : (Builtin.firstCells inf.size 0 (.slice A2 0 c2)).run P w = .ok #[] w := by
    cases A2 <;> simp [Builtin.firstCells, loadCells, loadCellsFrom]
  cases A <;> simp [Builtin.append_, run_underlying ht, sizeOf, typeInfo, hi, Builtin.lenOf, hm, hf, storeCells]

theorem V1_appendS {d e m c m2 c2 bytes : Nat} {A A2 : Option Addr} (h : appOpS P n ops l i = some (d, e, A, m, c, A2, m2, c2)) (hi : appInfo P e = some (1, bytes)) (base B : Nat) (xs news : List Value) (hown : Rw w base e A m c xs)
    (hl : news.length = m2) (hnews : Sl w B A2 news) (h1 : ∀ u ∈ news, oneC u = true) (h63 : m + m2 ≤ maxLen) (hbytes : (m + m2) * bytes ≤ 140737488355328) (hbase : base ≤ w.heap.size)
    (next : ∀ A' c' w', Rw w' base e A' (m + m2) c' (xs ++ news) → Step (fun k => base ≤ k) w w' → K ((d, .slice A' (m + m2) c') :: l) w') : V1 r n ds P ops Q i l w K := by
  unfold appInfo at hi
  split at hi
  · rename_i inf hinf
    split at hi
    · rename_i z hz
      cases hb : Nat.beq z.cells.size inf.size && Nat.blt 0 inf.size with
      | false => rw [hb] at hi; cases hi
      | true =>
        rw [hb] at hi
        simp only [cond_true, Option.some.injEq, Prod.mk.injEq] at hi
        obtain ⟨hsz, hby⟩ := hi
        simp only [Bool.and_eq_true] at hb
        have hzs := Nat.eq_of_beq_eq_true hb.1
        unfold appOpS at h
        split at h
        · rename_i _ d' ags ts ty pos aft gd ho
          split at h
          · rename_i t t' A0 m0 c0 A20 m20 c20 h0 h1' hv hx
            split at h
            · rename_i e' hu
              cases hq : Nat.blt d' n && Nat.beq t t' && Nat.beq ts.size 2 && Nat.beq ags.size 2 with
              | false => rw [hq] at h; cases h
              | true =>
                rw [hq] at h
                simp only [cond_true, Option.some.injEq, Prod.mk.injEq] at h
                obtain ⟨rfl, rfl, rfl, rfl, rfl, rfl, rfl, rfl⟩ := h
                simp only [Bool.and_eq_true] at hq
                obtain ⟨⟨⟨q1, q2⟩, q3⟩, q4⟩ := hq
                have q2 := Nat.eq_of_beq_eq_true q2
                subst q2
                have hts := arr2 (Nat.eq_of_beq_eq_true q3) h0 h1'
                have has := arr2 (by simpa using Nat.eq_of_beq_eq_true q4) hv hx
                rcases Nat.eq_zero_or_pos m20 with hz0 | hpos
                · subst hz0
                  obtain rfl : news = [] := List.eq_nil_of_length_eq_zero hl
                  refine V1_value ho rfl q1 ?_ (next A0 c0 w ((by simpa using hown : Rw w base e' A0 (m0 + 0) c0 (xs ++ []))) (Step.refl _ _))
                  simp only [execOp, resolve, invoke, builtin, Sem.run_bind, Sem.run_pure, Result.andThen_ok, has, hts, run_append_empty hu hinf A0 A20 m0 c0 c20 hown.cap]
                  rfl
                · obtain ⟨b', o', rfl, _⟩ := hnews.open (by omega)
                  obtain ⟨v2, w2, hr, hr1, hr2, _⟩ := run_append_own (P := P) w base t ty e' inf z 1 bytes hu hinf hz hsz hby (by rw [hzs, hsz]) (by omega) _ m0 xs hown ⟨b', o', none⟩ m20 c20 news (by omega) (fun j u hj => by rw [add_none]; exact hnews.get j u hj) (fun u hu => oneC_oneCell (h1 u hu)) h63 hbytes hbase
                  obtain ⟨A', c', rfl, hR⟩ := Rw.of_row hr1
                  refine V1_value ho rfl q1 ?_ (next A' c' w2 hR (hown.grown hr2))
                  simp only [execOp, resolve, invoke, builtin, Sem.run_bind, Sem.run_pure, Result.andThen_ok, has, hts, hr]
            · cases h
          · cases h
        · cases h
    · cases hi
  · cases hi
theorem VL_appendS {d e m c m2 c2 bytes : Nat} {A A2 : Option Addr} (h : appOpS P n ops l i = some (d, e, A, m, c, A2, m2, c2)) (hi' : Nat.blt i ops.size = true) (hi : appInfo P e = some (1, bytes)) (base B : Nat) (xs news : List Value) (hown : Rw w base e A m c xs)
    (hl : news.length = m2) (hnews : Sl w B A2 news) (h1 : ∀ u ∈ news, oneC u = true) (N : Nat) (hN : m + m2 = N) (h63 : N ≤ maxLen) (hbytes : N * bytes ≤ 140737488355328) (hbase : base ≤ w.heap.size)
    (next : ∀ A' c' w', Rw w' base e A' N c' (xs ++ news) → Step (fun k => base ≤ k) w w' → VL r n ds P ops Q (i + 1) ((d, .slice A' N c') :: l) w') : VL r n ds P ops Q i l w := by
  subst hN
  exact VL_of_V1 hi' (V1_appendS h hi base B xs news hown hl hnews h1 h63 hbytes hbase next)
end

/-! ### 4. Rows whose block is known; arrays -/
section
variable {F : Nat → Prop} {w w' w0 : World} {B base base' n n' c c' : Nat} {e : TypeId} {A : Option Addr} {xs ys : List Value} {P : Program} {k : IntKind} {bs bs' : List Int}
theorem Rw.openG {g : Nat} (h : Rw w base e (some ⟨g, 0, none⟩) n c xs) : ∃ cur, base ≤ g ∧ g < w.heap.size ∧ Own w g cur e ∧ cur.size = c ∧ n ≤ c ∧ c ≤ maxLen ∧ cur.toList.take n = xs := by
  rcases h.2 with ⟨hv, hn⟩ | ⟨g, cap, cur, hv, hb', hg, hc, hm, hs, ht⟩
  · cases hv
  · cases hv
    exact ⟨cur, hb', (Array.getElem?_eq_some_iff.1 hg).1, hg, by simpa using hs, hc, hm, by simpa using ht⟩
theorem Rw.keepG {g : Nat} (h : Rw w base e (some ⟨g, 0, none⟩) n c xs) (hs : Step F w w') (hF : ¬ F g) : Rw w' base e (some ⟨g, 0, none⟩) n c xs := by
  obtain ⟨cur, hb, hl, ho, h1, h2, h3, h4⟩ := h.openG
  exact Rw.of_own (ho.step hs hF) hb h1 h2 h3 h4
theorem Rw.putI {g j : Nat} {cur : Array Value} {v : Int} (hx : cur.toList.take n = iL k bs) (hw : Wr w w' g (setRow cur j [.int k v]) e) (hb : base ≤ g) (hs : cur.size = c) (hn : n ≤ c) (hm : c ≤ maxLen) (hj : j < n) : Rw w' base e (some ⟨g, 0, none⟩) n c (iL k (bs.set j v)) := by
  rw [iL_set]; exact Rw.put hx hw hb hs hn hm hj
theorem Rw.ldI {g j : Nat} {t : TypeId} (h : Rw w base e (some ⟨g, 0, none⟩) n c (iL k bs)) (ht : oneB P t = true) (hj : j < n) : Loads P t w ⟨g, j, none⟩ (.int k (bs.getD j 0)) :=
  h.ld ht (iL_get j (by have := h.len; simp at this; omega))
theorem Rw.slI (h : Rw w base e A n c (iL k bs)) : Sl w w.heap.size A (iL k bs) := h.sl
theorem Rw.lenI (h : Rw w base e A n c (iL k bs)) : bs.length = n := by have := h.len; simpa using this
theorem Sl.ldI {b o : Nat} {t : TypeId} (h : Sl w B (some ⟨b, o, none⟩) (iL k bs)) (ht : oneB P t = true) (j : Nat) (hj : j < bs.length) : Loads P t w ⟨b, o + j, none⟩ (.int k (bs.getD j 0)) := h.ld ht j (iL_get j hj)
theorem Sl.ldI0 {b : Nat} {t : TypeId} (h : Sl w B (some ⟨b, 0, none⟩) (iL k bs)) (ht : oneB P t = true) (j : Nat) (hj : j < bs.length) : Loads P t w ⟨b, j, none⟩ (.int k (bs.getD j 0)) := h.ld0 ht j (iL_get j hj)
theorem Sl.openI (h : Sl w B A (iL k bs)) (h0 : 0 < bs.length) : ∃ b o, A = some ⟨b, o, none⟩ ∧ b < B := h.open (by simpa using h0)
theorem Own.slI {b : Nat} (h : Own w b (iA k bs) e) (hB : b < B) : Sl w B (some ⟨b, 0, none⟩) (iL k bs) := by simpa [iA] using h.sl hB
theorem Loads.arr1 {b j : Nat} {t : TypeId} (h : Own w b (iA k bs) e) (ht : oneB P t = true) (hj : j < bs.length) : Loads P t w ⟨b, j, none⟩ (.int k (bs.getD j 0)) := Loads.own1 h ht (iA_get j hj)
theorem Loads.arr {b : Nat} {t : TypeId} {N : Nat} (h : Own w b (iA k bs) e) (ht : aggB P t = some N) (hn : bs.length = N) : Loads P t w ⟨b, 0, none⟩ (.agg (iA k bs)) :=
  Loads.own h ht (by simp [hn]) (by rw [Nat.zero_add, ← hn, ← iA_size (k := k)]; simp)
theorem setRow_all {c : Array Value} (h : c.size = bs.length) : setRow c 0 (iA k bs).toList = iA k bs := by
  apply Array.ext_getElem?
  intro q
  rw [getElem?_setRow _ _ _ (by simp [iA]; omega)]
  by_cases hq : q < bs.length
  · rw [if_pos (by simp [iA]; omega)]; simp [iA]
  · rw [if_neg (by simp [iA]; omega), Array.getElem?_eq_none (by omega), Array.getElem?_eq_none (by simp; omega)]
end
section
variable {r : Option Nat} {n : Nat} {ds : List Deferred} {P : Program} {ops : Array Oper} {Q : Exit → Act → World → Prop} {l : List (Nat × Value)} {w : World} {i : Nat} {K : List (Nat × Value) → World → Prop}
def storeOpA (P : Program) (ops : Array Oper) (l : List (Nat × Value)) (i : Nat) : Option (Nat × Nat × Nat × Value) :=
  match theOp ops l i with
  | some { dst := none, op := .store t x y, .. } => match evL l x with
    | .pointer (some ⟨b, o, none⟩) => match P.info? t with
      | some inf => some (inf.size, b, o, evL l y)
      | none => none
    | _ => none
  | _ => none
theorem V1_storeA {b o sz : Nat} {v : Value} {c : Array Value} {e : TypeId} (h : storeOpA P ops l i = some (sz, b, o, v)) (hone : ∀ u ∈ v.cells.toList, oneC u = true) (hv : v.cells.size = sz) (hB : Own w b c e) (hsz : o + sz ≤ c.size) (next : ∀ w1, Wr w w1 b (setRow c o v.cells.toList) e → K l w1) : V1 r n ds P ops Q i l w K := by
  unfold storeOpA at h
  split at h
  · rename_i _ t x y ty pos aft gd ho
    split at h
    · rename_i b' o' hx
      split at h
      · rename_i inf hinf
        simp only [Option.some.injEq, Prod.mk.injEq] at h
        obtain ⟨hs, rfl, rfl, rfl⟩ := h
        obtain ⟨w1, hr, hwr⟩ := run_storeCells (P := P) (o := o') (evL l y).cells.toList 0 w c e hB (by simp; omega) hone
        refine V1_skip ho rfl ?_ (next w1 hwr)
        simp only [execOp, Instr.storeAt, Instr.sureAddr, hx, Sem.run_bind, Sem.run_pure, Result.andThen_ok, storeVar, run_sizeOf hinf, hv, hs, ne_eq, not_true_eq_false, if_false, hr]
      · cases h
    · cases h
  · cases h
theorem VL_storeA {k : IntKind} {bs : List Int} {b sz : Nat} {c : Array Value} {e : TypeId} (h : storeOpA P ops l i = some (sz, b, 0, .agg (iA k bs))) (hi : Nat.blt i ops.size = true) (hv : bs.length = sz) (hB : Own w b c e) (hsz : c.size = sz) (next : ∀ w1, Wr w w1 b (iA k bs) e → VL r n ds P ops Q (i + 1) l w1) : VL r n ds P ops Q i l w :=
  VL_of_V1 hi (V1_storeA h (fun u hu => iL_one (k := k) (bs := bs) u (by simpa [Value.cells, iA] using hu)) (by simp [Value.cells, hv]) hB (by omega) fun w1 hw => next w1 (by
    have := setRow_all (k := k) (bs := bs) (c := c) (by omega)
    simp only [Value.cells] at hw
    rwa [this] at hw))
end
section
variable {r : Option Nat} {n : Nat} {ds : List Deferred} {P : Program} {ops : Array Oper} {Q : Exit → Act → World → Prop} {tbl : List (List Nat)} {m : Nat} {l : List (Nat × Value)} {R : World → World → Prop} {ch : List Nat} {w : World}
theorem VTc_appendS {k d e mm c m2 c2 bytes : Nat} {A A2 : Option Addr} {is : List Nat} {kn : List (Nat × Value)} (h : appOpS P n ops (lkn ops tbl m l kn k) k = some (d, e, A, mm, c, A2, m2, c2)) (hd : dstOf ops k = some d) (hi : appInfo P e = some (1, bytes)) (base B : Nat) (xs news : List Value) (hown : Rw w base e A mm c xs)
    (hl : news.length = m2) (hnews : Sl w B A2 news) (h1 : ∀ u ∈ news, oneC u = true) (N : Nat) (hN : mm + m2 = N) (h63 : N ≤ maxLen) (hbytes : N * bytes ≤ 140737488355328) (hbase : base ≤ w.heap.size)
    (hR : ∀ w1, Step (fun k => base ≤ k) w w1 → R w w1)
    (next : ∀ A' c' w', Rw w' base e A' N c' (xs ++ news) → Step (fun k => base ≤ k) w w' → VT r n ds P ops Q tbl m l R ch is ((k, .slice A' N c') :: kn) w') : VTc r n ds P ops Q tbl m l R ch k is kn w := by
  subst hN
  exact V1_appendS h hi base B xs news hown hl hnews h1 h63 hbytes hbase fun A' c' w' hr hs => ⟨hR w' hs, .inl ⟨_, d, hd, look_head, next A' c' w' hr hs⟩⟩
theorem VT_slice {k d b o sz len cap : Nat} {lo hi mx : Option Int} {is : List Nat} {kn : List (Nat × Value)} (h : sliceOp P n ops (lkn ops tbl m l kn k) k = some (d, b, o, sz, len, cap, lo, hi, mx)) (hd : dstOf ops k = some d) (hno : mx ≠ none → hi ≠ none) (L H M : Nat)
    (hl : lo.getD 0 = L) (hh : hi.getD len = H) (hm : mx.getD cap = M) (h1 : L ≤ H) (h2 : H ≤ M) (h3 : M ≤ cap) (o' : Nat) (ho' : (if M = L then o else o + L * sz) = o') (N : Nat) (hN : H - L = N) (C : Nat) (hC : M - L = C) (next : VT r n ds P ops Q tbl m l R ch is ((k, .slice (some ⟨b, o', none⟩) N C) :: kn) w) : VT r n ds P ops Q tbl m l R ch (k :: is) kn w := by
  subst hN; subst hC
  exact VT_float _ (fun w' hR => V1_slice h hno L H M hl hh hm h1 h2 h3 o' ho' ⟨⟨d, hd, look_head⟩, Step.refl _ _⟩) next
end
/-! ### 5. Shifts by a variable -/
section
variable {r : Option Nat} {n : Nat} {ds : List Deferred} {P : Program} {ops : Array Oper} {Q : Exit → Act → World → Prop} {l : List (Nat × Value)} {w : World} {i : Nat} {K : List (Nat × Value) → World → Prop}
def shrOp (n : Nat) (ops : Array Oper) (l : List (Nat × Value)) (i : Nat) : Option (Nat × IntKind × Int × Int) :=
  match theOp ops l i with
  | some { dst := some d, op := .binOp .shr _ x y _, .. } => match evL l x, evL l y with
    | .int k a, .int _ b => bif Nat.blt d n then some (d, k, a, b) else none
    | _, _ => none
  | _ => none
theorem V1_shr {d : Nat} {k : IntKind} {x y : Int} (h : shrOp n ops l i = some (d, k, x, y)) (j : Nat) (hy : y = (j : Nat)) (hj : j ≤ k.bits) (next : K ((d, .int k (x.fdiv (2 ^ j))) :: l) w) : V1 r n ds P ops Q i l w K := by
  unfold shrOp at h
  split at h
  · rename_i _ d' t a b u ty pos aft gd ho
    split at h
    · rename_i k' xa yk yb hx hyv
      cases hb : Nat.blt d' n with
      | false => rw [hb] at h; cases h
      | true =>
        rw [hb] at h
        simp only [cond_true, Option.some.injEq, Prod.mk.injEq] at h
        obtain ⟨rfl, rfl, rfl, rfl⟩ := h
        refine V1_value ho rfl hb ?_ next
        subst hy
        have h0 : ¬ (j : Int) < 0 := by omega
        simp [execOp, eqGuard, binOp, Op.shift, hx, hyv, Sem.run_bind, h0, Nat.min_eq_left hj]
    · cases h
  · cases h
theorem VL_shr {d : Nat} {k : IntKind} {x y : Int} (h : shrOp n ops l i = some (d, k, x, y)) (hi : Nat.blt i ops.size = true) (j : Nat) (hy : y = (j : Nat)) (hj : j ≤ k.bits) (next : VL r n ds P ops Q (i + 1) ((d, .int k (x.fdiv (2 ^ j))) :: l) w) : VL r n ds P ops Q i l w :=
  VL_of_V1 hi (V1_shr h j hy hj next)
end
/-! ### 6. make -/
section
variable {r : Option Nat} {n : Nat} {ds : List Deferred} {P : Program} {ops : Array Oper} {Q : Exit → Act → World → Prop} {l : List (Nat × Value)} {w : World} {i : Nat} {K : List (Nat × Value) → World → Prop}
def mkOp (n : Nat) (ops : Array Oper) (l : List (Nat × Value)) (i : Nat) : Option (Nat × TypeId × Int × Int) :=
  match theOp ops l i with
  | some { dst := some d, op := .makeSlice t x y, .. } => match evL l x, evL l y with
    | .int .i64 a, .int .i64 b => bif Nat.blt d n then some (d, t, a, b) else none
    | _, _ => none
  | _ => none
theorem run_makeSlice {t e : TypeId} {inf : TypeInfo} {k : IntKind} (ht : P.underlying t = some (.slice e)) (hi : P.info? e = some inf) (hz : inf.zero = some (.int k 0)) (hs : inf.size = 1) (m : Nat) (hm : inf.bytes * m ≤ 281474976710656) (hm2 : m ≤ 4611686018427387904) :
    (Instr.makeSlice t (.int .i64 (m : Int)) (.int .i64 (m : Int))).run P w = .ok (.slice (some ⟨w.heap.size, 0, none⟩) m m) (w.alloc (.cells (iA k (List.replicate m 0)) e)) := by
  have hw : IntKind.wrap .i64 (m : Int) = (m : Int) := wrap_i64 _ (by omega) (by omega)
  have hb : ¬ (281474976710656 : Int) < (inf.bytes : Int) * (m : Int) := by
    have h1 : ((inf.bytes * m : Nat) : Int) ≤ 281474976710656 := Int.ofNat_le.2 hm
    rw [Int.natCast_mul] at h1
    omega
  have h0 : ¬ (m : Int) < 0 := by omega
  have hzc : ((Array.range m).map fun x => (Value.int k 0).cells[x % (Value.int k 0).cells.size]!) = iA k (List.replicate m 0) := by
    apply Array.ext
    · simp
    · intro q h1 h2
      simp [Value.cells, iA, iL]
      simp [Nat.mod_one]
  have e1 : decide ((m : Int) < 0) = false := decide_eq_false h0
  have e2 : decide ((inf.bytes : Int) * (m : Int) > 2 ^ 48) = false := decide_eq_false (by rw [show ((2 : Int) ^ 48) = 281474976710656 from rfl]; exact hb)
  have e3 : decide ((m : Int) > (m : Int)) = false := decide_eq_false (by omega)
  have hai : ∀ w : World, (asInt (.int .i64 (m : Int))).run P w = .ok (m : Int) w := fun w => by simp [asInt, asIntOf]
  have hti : (typeInfo e).run P w = .ok inf w := by simp only [typeInfo, program, Sem.run_bind, Sem.run, Result.andThen_ok, hi]; rfl
  have hzv : (zeroValue e).run P w = .ok (.int k 0) w := by simp [zeroValue, typeInfo, program, Sem.run, hi, hz]
  unfold Instr.makeSlice
  simp only [Sem.run_bind, run_underlying' ht, Result.andThen_ok, hai, Sem.run_pure, hti, hw, e1, e2, e3, Bool.false_or, Bool.or_self, Bool.false_eq_true, if_false, run_askRoom, run_sizeOf hi, hs, Int.toNat_natCast, Nat.mul_one]
  by_cases hm0 : m = 0
  · subst hm0
    simp only [if_true, Sem.run_bind, Sem.run_pure, Result.andThen_ok, newRow, newObj, Sem.run]
    rw [show (Array.range 0) = #[] from rfl]
    simp only [Array.map_empty]
    rfl
  · simp only [if_neg hm0, Sem.run_bind, Sem.run_pure, Result.andThen_ok, hzv, newRow, newObj, Sem.run, hzc]
    rfl
theorem V1_make {d t e : TypeId} {k : IntKind} {a b : Int} {bytes : Nat} (h : mkOp n ops l i = some (d, t, a, b)) (ht : P.underlying t = some (.slice e)) (hi : (P.info? e).map (fun i => (i.zero, i.size, i.bytes)) = some (some (.int k 0), 1, bytes)) (m : Nat) (ha : a = (m : Nat)) (hb : b = (m : Nat)) (hm : bytes * m ≤ 281474976710656) (hm2 : m ≤ 4611686018427387904)
    (next : ∀ g w1, New w w1 g (.cells (iA k (List.replicate m 0)) e) → K ((d, .slice (some ⟨g, 0, none⟩) m m) :: l) w1) : V1 r n ds P ops Q i l w K := by
  obtain ⟨inf, hinf, hh⟩ := Option.map_eq_some_iff.1 hi
  simp only [Prod.mk.injEq] at hh
  obtain ⟨hz, hs, hby⟩ := hh
  subst hby; subst ha; subst hb
  unfold mkOp at h
  split at h
  · rename_i _ d' t' x y ty pos aft gd ho
    split at h
    · rename_i xa yb hx hy
      cases hq : Nat.blt d' n with
      | false => rw [hq] at h; cases h
      | true =>
        rw [hq] at h
        simp only [cond_true, Option.some.injEq, Prod.mk.injEq] at h
        obtain ⟨rfl, rfl, rfl, rfl⟩ := h
        refine V1_value ho rfl hq ?_ (next w.heap.size _ ⟨rfl, rfl⟩)
        simp only [execOp, hx, hy, Sem.run_bind, run_makeSlice ht hinf hz hs m hm hm2, Result.andThen_ok, Sem.run_pure]
    · cases h
  · cases h
theorem VL_make {d t e : TypeId} {k : IntKind} {a b : Int} {bytes : Nat} (h : mkOp n ops l i = some (d, t, a, b)) (hi' : Nat.blt i ops.size = true) (ht : P.underlying t = some (.slice e)) (hi : (P.info? e).map (fun i => (i.zero, i.size, i.bytes)) = some (some (.int k 0), 1, bytes)) (m : Nat) (ha : a = (m : Nat)) (hb : b = (m : Nat)) (hm : bytes * m ≤ 281474976710656) (hm2 : m ≤ 4611686018427387904)
    (next : ∀ g w1, New w w1 g (.cells (iA k (List.replicate m 0)) e) → VL r n ds P ops Q (i + 1) ((d, .slice (some ⟨g, 0, none⟩) m m) :: l) w1) : VL r n ds P ops Q i l w :=
  VL_of_V1 hi' (V1_make h ht hi m ha hb hm hm2 next)
theorem Rw.made {w : World} {g e m : Nat} {k : IntKind} (ho : Own w g (iA k (List.replicate m 0)) e) (hm : m ≤ maxLen) : Rw w g e (some ⟨g, 0, none⟩) m m (iL k (List.replicate m 0)) :=
  Rw.of_own ho (Nat.le_refl _) (by simp) (Nat.le_refl _) hm (by rw [List.take_of_length_le (by simp [iA])]; simp [iA])
theorem Own.slSub {w : World} {b B : Nat} {c : Array Value} {e : TypeId} (h : Own w b c e) (hB : b < B) (o m : Nat) : Sl w B (some ⟨b, o, none⟩) ((c.toList.drop o).take m) := by
  have := (h.sl hB).sub o m
  rwa [Nat.zero_add] at this
end
/-! ### 7. copy out of a slice that may be nil -/
def putL {α : Type} (c : List α) (o : Nat) (vs : List α) : List α := c.take o ++ vs ++ c.drop (o + vs.length)
theorem putL_len {α : Type} {c : List α} {o : Nat} {vs : List α} (h : o + vs.length ≤ c.length) : (putL c o vs).length = c.length := by simp [putL]; omega
theorem setRow_putL (c : Array Value) (o : Nat) (vs : List Value) (h : o + vs.length ≤ c.size) : (setRow c o vs).toList = putL c.toList o vs := by
  apply List.ext_getElem?
  intro q
  rw [Array.getElem?_toList, getElem?_setRow vs c o h, putL, List.append_assoc]
  by_cases h1 : q < o
  · rw [if_neg (by omega), List.getElem?_append_left (by simp; omega), List.getElem?_take, if_pos h1]; simp
  · rw [List.getElem?_append_right (by simp; omega)]
    have e : (c.toList.take o).length = o := by simp; omega
    rw [e]
    by_cases h2 : q < o + vs.length
    · rw [if_pos ⟨by omega, h2⟩, List.getElem?_append_left (by omega)]
    · rw [if_neg (by omega), List.getElem?_append_right (by omega), List.getElem?_drop]
      simp
      congr 1; omega
theorem iA_putL {k : IntKind} {bs vs : List Int} (o : Nat) (h : o + vs.length ≤ bs.length) : setRow (iA k bs) o (iL k vs) = iA k (putL bs o vs) := by
  apply Array.toList_inj.1
  rw [setRow_putL _ _ _ (by simpa using h)]
  simp [iA, iL, putL]
section
variable {r : Option Nat} {n : Nat} {ds : List Deferred} {P : Program} {ops : Array Oper} {Q : Exit → Act → World → Prop} {l : List (Nat × Value)} {w : World} {i : Nat} {K : List (Nat × Value) → World → Prop}
def copyOpS (P : Program) (n : Nat) (ops : Array Oper) (l : List (Nat × Value)) (i : Nat) : Option (Nat × Nat × Nat × Nat × Option Addr × Nat) :=
  match theOp ops l i with
  | some { dst := some d, op := .call { callee := .builtin .copy, args := ags, argTypes := ts }, .. } =>
    match ((ts[0]?).bind P.underlying : Option TypeDesc), ((ags.map (evL l))[0]? : Option Value), ((ags.map (evL l))[1]? : Option Value) with
    | some (TypeDesc.slice elem), some (Value.slice (some ⟨b, o, none⟩) dl _), some (Value.slice A2 sl _) => match (P.info? elem).map (·.size) with
      | some 1 => bif Nat.blt d n then some (d, b, o, dl, A2, sl) else none
      | _ => none
    | _, _, _ => none
  | _ => none
theorem V1_copyS {d b o dl sl B : Nat} {A2 : Option Addr} {c : Array Value} {e : TypeId} (h : copyOpS P n ops l i = some (d, b, o, dl, A2, sl)) (vs : List Value) (hvs : vs.length = sl) (hle : sl ≤ dl) (hsrc : Sl w B A2 vs) (hone : ∀ v ∈ vs, oneC v = true)
    (hB : Own w b c e) (hsz : o + vs.length ≤ c.size) (next : ∀ w1, Wr w w1 b (setRow c o vs) e → K ((d, .int .i64 (sl : Int)) :: l) w1) : V1 r n ds P ops Q i l w K := by
  unfold copyOpS at h
  split at h
  · rename_i _ d' ags ts ty pos aft gd ho
    split at h
    · rename_i elem b' o' dl' dc A2' sl' sc hu hx hy
      split at h
      · rename_i hsz'
        cases hb : Nat.blt d' n with
        | false => rw [hb] at h; cases h
        | true =>
          rw [hb] at h
          simp only [cond_true, Option.some.injEq, Prod.mk.injEq] at h
          obtain ⟨rfl, rfl, rfl, rfl, rfl, rfl⟩ := h
          obtain ⟨inf, hinf, hs⟩ := Option.map_eq_some_iff.1 hsz'
          obtain ⟨w1, hr, hwr⟩ := run_storeCells (P := P) (b := b') (o := o') vs 0 w c e hB (by omega) hone
          refine V1_value ho rfl hb ?_ (next w1 hwr)
          have hmin : Nat.min sl' dl' = sl' := Nat.min_eq_left hle
          have hfirst : (Builtin.firstCells 1 sl' (.slice A2' sl' sc)).run P w = .ok vs.toArray w := by
            rcases Nat.eq_zero_or_pos sl' with h0 | h0
            · subst h0
              obtain rfl : vs = [] := List.eq_nil_of_length_eq_zero hvs
              cases A2' <;> simp [Builtin.firstCells, loadCells, loadCellsFrom]
            · obtain ⟨b2, o2, rfl, _⟩ := hsrc.open (by omega)
              simp only [Builtin.firstCells]
              refine run_loadCells' (by omega) fun j hj => ?_
              rw [add_none]
              have hj' : j < vs.length := by omega
              rw [List.getElem?_eq_getElem hj']
              exact hsrc.get j _ (List.getElem?_eq_getElem hj')
          obtain ⟨t, ht, hu'⟩ := Option.bind_eq_some_iff.1 hu
          simp only [execOp, resolve, invoke, builtin, Builtin.copy_, Sem.run_bind, Sem.run_pure, Result.andThen_ok, hx, hy, ht, run_underlying' hu', Builtin.lenOf, run_sizeOf hinf, hs, hmin, hfirst, hr, goInt]
      · cases h
    · cases h
  · cases h
theorem VL_copyA {d b o dl sl B : Nat} {A2 : Option Addr} {k : IntKind} {bs vs : List Int} {e : TypeId} (h : copyOpS P n ops l i = some (d, b, o, dl, A2, sl)) (hi : Nat.blt i ops.size = true) (hvs : vs.length = sl) (hle : sl ≤ dl) (hsrc : Sl w B A2 (iL k vs))
    (hB : Own w b (iA k bs) e) (hsz : o + sl ≤ bs.length) (next : ∀ w1, Wr w w1 b (iA k (putL bs o vs)) e → VL r n ds P ops Q (i + 1) ((d, .int .i64 (sl : Int)) :: l) w1) : VL r n ds P ops Q i l w := by
  refine VL_of_V1 hi (V1_copyS h (iL k vs) (by simpa using hvs) hle hsrc iL_one hB (by simp; omega) fun w1 hw => next w1 ?_)
  rwa [iA_putL o (by omega)] at hw
end
/-! ### 8. Arrays are equal -/
theorem iA_are {k : IntKind} : ∀ {bs : List Int} {m : Nat}, bs.length = m → CellsAre (iA k bs).toList (rep m [.int k])
  | [], 0, _ => trivial
  | [], m + 1, h => by simp at h
  | _ :: _, 0, h => by simp at h
  | x :: bs, m + 1, h => ⟨⟨x, rfl⟩, by
      have := iA_are (k := k) (bs := bs) (m := m) (by simpa using h)
      simpa [iA, iL] using this⟩
theorem iA_cellsEq {k : IntKind} : ∀ (xs bs : List Int), cellsEq (iA k xs).toList (iA k bs).toList = (xs == bs)
  | [], [] => rfl
  | [], _ :: _ => rfl
  | _ :: _, [] => rfl
  | x :: xs, y :: bs => by
    have := iA_cellsEq (k := k) xs bs
    simp only [iA, iL, List.map_cons] at this ⊢
    show (leafEq (.int k x) (.int k y) && cellsEq _ _) = _
    rw [this]; rfl
theorem iA_eq {k : IntKind} {xs bs : List Int} (pos : Bool) : (if pos = true then cellsEq (iA k xs).toList (iA k bs).toList else !cellsEq (iA k xs).toList (iA k bs).toList) = (if pos = true then xs == bs else !(xs == bs)) := by rw [iA_cellsEq]
theorem Loads.arrSub {w : World} {k : IntKind} {bs : List Int} {e b o N : Nat} {P : Program} {t : TypeId} (h : Own w b (iA k bs) e) (ht : aggB P t = some N) (hn : o + N ≤ bs.length) : Loads P t w ⟨b, o, none⟩ (.agg ((List.range N).map fun i => Value.int k (bs.getD (o + i) 0)).toArray) := by
  refine Loads.cells ht _ (by simp) fun j hj => ?_
  rw [add_none, h.cell, iA_get _ (by omega)]
  simp [hj]
theorem Det1_shr {r : Option Nat} {n : Nat} {ds : List Deferred} {P : Program} {ops : Array Oper} {Q : Exit → Act → World → Prop} {w : World} {l : List (Nat × Value)} {i d : Nat} {k : IntKind} {x y : Int} (h : shrOp n ops l i = some (d, k, x, y)) (hd : dstOf ops i = some d) (j : Nat) (hy : y = (j : Nat)) (hj : j ≤ k.bits) : Det1 r n ds P ops Q w l i (.int k (x.fdiv (2 ^ j))) :=
  V1_shr h j hy hj ⟨d, hd, look_head, Step.refl _ _⟩
theorem Loads.row {w : World} {base e g n c : Nat} {k : IntKind} {bs : List Int} {P : Program} {t : TypeId} (h : Rw w base e (some ⟨g, 0, none⟩) n c (iL k bs)) (ht : aggB P t = some n) : Loads P t w ⟨g, 0, none⟩ (.agg (iA k bs)) := by
  have hl := h.lenI
  refine Loads.cells ht _ (by simp [hl]) fun j hj => ?_
  rw [add_none, iA_get j (by omega)]
  exact h.slI.get j _ (iL_get j (by omega))
theorem take_setRow_vs {cur : Array Value} {o n : Nat} {vs : List Value} (h : o + vs.length ≤ n) (hn : n ≤ cur.size) : (setRow cur o vs).toList.take n = putL (cur.toList.take n) o vs := by
  rw [setRow_putL _ _ _ (by omega)]
  unfold putL
  rw [List.append_assoc, List.append_assoc, List.take_append, List.take_append]
  have e1 : (cur.toList.take o).length = o := by simp; omega
  rw [e1, List.take_of_length_le (show (cur.toList.take o).length ≤ n by omega), List.take_of_length_le (show vs.length ≤ n - o by omega), List.take_take, Nat.min_eq_left (show o ≤ n by omega), List.drop_take]
  congr 3
  omega
theorem Rw.copyI {w w' : World} {base e g o n c : Nat} {k : IntKind} {bs vs : List Int} {cur : Array Value} (hx : cur.toList.take n = iL k bs) (hw : Wr w w' g (setRow cur o (iL k vs)) e) (hb : base ≤ g) (hs : cur.size = c) (hn : n ≤ c) (hm : c ≤ maxLen) (hv : o + vs.length ≤ n) : Rw w' base e (some ⟨g, 0, none⟩) n c (iL k (putL bs o vs)) :=
  Rw.of_own hw.own hb (by rw [size_setRow]; exact hs) hn hm (by rw [take_setRow_vs (by simpa using hv) (by omega), hx]; simp [putL, iL])
section
variable {r : Option Nat} {n : Nat} {ds : List Deferred} {P : Program} {ops : Array Oper} {Q : Exit → Act → World → Prop} {l : List (Nat × Value)} {w : World} {i : Nat}
theorem VL_copyR {d b o dl sl B base nn c : Nat} {A2 : Option Addr} {k : IntKind} {bs vs : List Int} {e : TypeId} (h : copyOpS P n ops l i = some (d, b, o, dl, A2, sl)) (hi : Nat.blt i ops.size = true) (hvs : vs.length = sl) (hle : sl ≤ dl) (hsrc : Sl w B A2 (iL k vs))
    (hR : Rw w base e (some ⟨b, 0, none⟩) nn c (iL k bs)) (hsz : o + sl ≤ nn) (next : ∀ w1, Rw w1 base e (some ⟨b, 0, none⟩) nn c (iL k (putL bs o vs)) → Step (Just b) w w1 → w1.heap.size = w.heap.size → VL r n ds P ops Q (i + 1) ((d, .int .i64 (sl : Int)) :: l) w1) : VL r n ds P ops Q i l w := by
  obtain ⟨cur, hb, hl, ho, h1, h2, h3, h4⟩ := hR.openG
  exact VL_of_V1 hi (V1_copyS h (iL k vs) (by simpa using hvs) hle hsrc iL_one ho (by simp; omega) fun w1 hw => next w1 (Rw.copyI h4 hw hb h1 h2 h3 (by omega)) hw.step hw.same)
end
end Go.Vc
end

section
/- More rules for slices: an address of any kind; copy in a region that draws its order. -/
set_option linter.unusedVariables false
set_option linter.unusedSimpArgs false
namespace Go.Vc
open Go.RowKit
section
variable {r : Option Nat} {n : Nat} {ds : List Deferred} {P : Program} {ops : Array Oper} {Q : Exit → Act → World → Prop} {tbl : List (List Nat)} {m : Nat} {l : List (Nat × Value)} {R : World → World → Prop} {ch : List Nat} {w : World} {i : Nat} {K : List (Nat × Value) → World → Prop}
theorem VTc_copyR {k d b o dl sl B base nn c : Nat} {A2 : Option Addr} {kd : IntKind} {bs vs : List Int} {e : TypeId} {is : List Nat} {kn : List (Nat × Value)} (h : copyOpS P n ops (lkn ops tbl m l kn k) k = some (d, b, o, dl, A2, sl)) (hd : dstOf ops k = some d) (hvs : vs.length = sl) (hle : sl ≤ dl) (hsrc : Sl w B A2 (iL kd vs))
    (hRw : Rw w base e (some ⟨b, 0, none⟩) nn c (iL kd bs)) (hsz : o + sl ≤ nn) (hR : ∀ w1, Step (Just b) w w1 → R w w1)
    (next : ∀ w1, Rw w1 base e (some ⟨b, 0, none⟩) nn c (iL kd (putL bs o vs)) → Step (Just b) w w1 → w1.heap.size = w.heap.size → VT r n ds P ops Q tbl m l R ch is ((k, .int .i64 (sl : Int)) :: kn) w1) : VTc r n ds P ops Q tbl m l R ch k is kn w := by
  obtain ⟨cur, hb, hl, ho, h1, h2, h3, h4⟩ := hRw.openG
  exact V1_copyS h (iL kd vs) (by simpa using hvs) hle hsrc iL_one ho (by simp; omega) fun w1 hw => ⟨hR w1 hw.step, .inl ⟨_, d, hd, look_head, next w1 (Rw.copyI h4 hw hb h1 h2 h3 (by omega)) hw.step hw.same⟩⟩
def sliceOpA (P : Program) (n : Nat) (ops : Array Oper) (l : List (Nat × Value)) (i : Nat) : Option (Nat × Option Addr × Nat × Nat × Nat × Option Int × Option Int × Option Int) :=
  match theOp ops l i with
  | some { dst := some d, op := .slice t x lo hi mx, .. } =>
    match optInt l lo, optInt l hi, optInt l mx with
    | some lo, some hi, some mx => match P.underlying t, evL l x with
      | some (.slice elem), .slice A len cap => match (P.info? elem).map (·.size) with
        | some sz => bif Nat.blt d n then some (d, A, sz, len, cap, lo, hi, mx) else none
        | none => none
      | _, _ => none
    | _, _, _ => none
  | _ => none
def movA (A : Option Addr) (b : Bool) (k : Nat) : Option Addr := A.map fun a => bif b then a else a.add k
theorem V1_sliceA {d sz len cap : Nat} {A : Option Addr} {lo hi mx : Option Int} (h : sliceOpA P n ops l i = some (d, A, sz, len, cap, lo, hi, mx)) (hno : mx ≠ none → hi ≠ none) (L H M : Nat)
    (hl : lo.getD 0 = L) (hh : hi.getD len = H) (hm : mx.getD cap = M) (h1 : L ≤ H) (h2 : H ≤ M) (h3 : M ≤ cap) (next : K ((d, .slice (movA A (decide (M = L)) (L * sz)) (H - L) (M - L)) :: l) w) : V1 r n ds P ops Q i l w K := by
  unfold sliceOpA at h
  split at h
  · rename_i _ d' t x lo' hi' mx' ty pos aft gd ho
    split at h
    · rename_i loi hii mxi hlo hhi hmx
      split at h
      · rename_i elem A' len' cap' hu hx
        split at h
        · rename_i sz' hsz
          cases hb : Nat.blt d' n with
          | false => rw [hb] at h; cases h
          | true =>
            rw [hb] at h
            simp only [cond_true, Option.some.injEq, Prod.mk.injEq] at h
            obtain ⟨rfl, rfl, rfl, rfl, rfl, rfl, rfl, rfl⟩ := h
            obtain ⟨inf, hinf, hs⟩ := Option.map_eq_some_iff.1 hsz
            refine V1_value ho rfl hb ?_ next
            simp only [execOp, Instr.sliceAt, Instr.slice, hx, Sem.run_bind, run_underlying' hu, Result.andThen_ok, Sem.run_pure, run_sliceBounds (w := w) (P := P) hlo hhi hmx hno L H M hl hh hm h1 h2 h3, run_sizeOf hinf, hs, add_none, movA]
            cases A' <;> by_cases e : M = L <;> simp [e]
        · cases h
      · cases h
    · cases h
  · cases h
theorem VT_sliceA {k d sz len cap : Nat} {A : Option Addr} {lo hi mx : Option Int} {is : List Nat} {kn : List (Nat × Value)} (h : sliceOpA P n ops (lkn ops tbl m l kn k) k = some (d, A, sz, len, cap, lo, hi, mx)) (hd : dstOf ops k = some d) (hno : mx ≠ none → hi ≠ none) (L H M : Nat)
    (hl : lo.getD 0 = L) (hh : hi.getD len = H) (hm : mx.getD cap = M) (h1 : L ≤ H) (h2 : H ≤ M) (h3 : M ≤ cap) (N : Nat) (hN : H - L = N) (C : Nat) (hC : M - L = C) (next : VT r n ds P ops Q tbl m l R ch is ((k, .slice (movA A (decide (M = L)) (L * sz)) N C) :: kn) w) : VT r n ds P ops Q tbl m l R ch (k :: is) kn w := by
  subst hN; subst hC
  exact VT_float _ (fun w' hR => V1_sliceA h hno L H M hl hh hm h1 h2 h3 ⟨⟨d, hd, look_head⟩, Step.refl _ _⟩) next
theorem VL_sliceA {d sz len cap : Nat} {A : Option Addr} {lo hi mx : Option Int} (h : sliceOpA P n ops l i = some (d, A, sz, len, cap, lo, hi, mx)) (hi' : Nat.blt i ops.size = true) (hno : mx ≠ none → hi ≠ none) (L H M : Nat)
    (hl : lo.getD 0 = L) (hh : hi.getD len = H) (hm : mx.getD cap = M) (h1 : L ≤ H) (h2 : H ≤ M) (h3 : M ≤ cap) (N : Nat) (hN : H - L = N) (C : Nat) (hC : M - L = C) (next : VL r n ds P ops Q (i + 1) ((d, .slice (movA A (decide (M = L)) (L * sz)) N C) :: l) w) : VL r n ds P ops Q i l w := by
  subst hN; subst hC
  exact VL_of_V1 hi' (V1_sliceA h hno L H M hl hh hm h1 h2 h3 next)
end
end Go.Vc
end

section
/- The rest by a variable. -/
set_option linter.unusedVariables false
set_option linter.unusedSimpArgs false
namespace Go.Vc
open Go.RowKit
section
variable {r : Option Nat} {n : Nat} {ds : List Deferred} {P : Program} {ops : Array Oper} {Q : Exit → Act → World → Prop} {l : List (Nat × Value)} {w : World} {i : Nat} {K : List (Nat × Value) → World → Prop}
def remOp (n : Nat) (ops : Array Oper) (l : List (Nat × Value)) (i : Nat) : Option (Nat × IntKind × Int × Int) :=
  match theOp ops l i with
  | some { dst := some d, op := .binOp .rem _ x y _, .. } => match evL l x, evL l y with
    | .int k a, .int k' b => if k = k' then bif Nat.blt d n then some (d, k, a, b) else none else none
    | _, _ => none
  | _ => none
theorem V1_rem {d : Nat} {k : IntKind} {x y : Int} (h : remOp n ops l i = some (d, k, x, y)) (hy : y ≠ 0) (next : K ((d, .int k (x.tmod y)) :: l) w) : V1 r n ds P ops Q i l w K := by
  unfold remOp at h
  split at h
  · rename_i _ d' t a b u ty pos aft gd ho
    split at h
    · rename_i k' xa yk yb hx hyv
      split at h
      · rename_i hk
        subst hk
        cases hb : Nat.blt d' n with
        | false => rw [hb] at h; cases h
        | true =>
          rw [hb] at h
          simp only [cond_true, Option.some.injEq, Prod.mk.injEq] at h
          obtain ⟨rfl, rfl, rfl, rfl⟩ := h
          refine V1_value ho rfl hb ?_ next
          simp [execOp, eqGuard, binOp, Op.intDiv, hx, hyv, Sem.run_bind, hy]
      · cases h
    · cases h
  · cases h
theorem VL_rem {d : Nat} {k : IntKind} {x y : Int} (h : remOp n ops l i = some (d, k, x, y)) (hi : Nat.blt i ops.size = true) (hy : y ≠ 0) (next : VL r n ds P ops Q (i + 1) ((d, .int k (x.tmod y)) :: l) w) : VL r n ds P ops Q i l w :=
  VL_of_V1 hi (V1_rem h hy next)
end
theorem wrap_u64n (a : Nat) (h : a < 18446744073709551616) : IntKind.wrap .u64 (a : Int) = (a : Int) := by
  unfold IntKind.wrap
  simp only [IntKind.signed, IntKind.bits, Bool.false_and, Bool.false_eq_true, if_false]
  omega
theorem rem_nat64 (a b : Nat) (hb : 0 < b) (hb2 : b < 9223372036854775808) : IntKind.wrap .i64 ((a : Int).tmod (b : Int)) = ((a % b : Nat) : Int) := by
  have h : (a : Int).tmod (b : Int) = ((a % b : Nat) : Int) := by rw [Int.tmod_eq_emod_of_nonneg (by omega)]; rfl
  have := Nat.mod_lt a hb
  rw [h, wrap_i64 _ (by omega) (by omega)]
end Go.Vc
end

section
/- A slice's elements as an array. -/
set_option linter.unusedVariables false
set_option linter.unusedSimpArgs false
namespace Go.Vc
open Go.RowKit
section
variable {r : Option Nat} {n : Nat} {ds : List Deferred} {P : Program} {ops : Array Oper} {Q : Exit → Act → World → Prop} {l : List (Nat × Value)} {w : World} {i : Nat} {K : List (Nat × Value) → World → Prop}
def stapOp (P : Program) (n : Nat) (ops : Array Oper) (l : List (Nat × Value)) (i : Nat) : Option (Nat × Option Addr × Nat × Nat) :=
  match theOp ops l i with
  | some { dst := some d, op := .sliceToArrayPointer t x, .. } => match P.underlying t, evL l x with
    | some (.array N _), .slice A len _ => bif Nat.blt d n then some (d, A, len, N) else none
    | _, _ => none
  | _ => none
theorem V1_stap {d len N : Nat} {A : Option Addr} (h : stapOp P n ops l i = some (d, A, len, N)) (hN : N ≤ len) (next : K ((d, .pointer A) :: l) w) : V1 r n ds P ops Q i l w K := by
  unfold stapOp at h
  split at h
  · rename_i _ d' t x ty pos aft gd ho
    split at h
    · rename_i N' el A' len' cap' hu hx
      cases hb : Nat.blt d' n with
      | false => rw [hb] at h; cases h
      | true =>
        rw [hb] at h
        simp only [cond_true, Option.some.injEq, Prod.mk.injEq] at h
        obtain ⟨rfl, rfl, rfl, rfl⟩ := h
        refine V1_value ho rfl hb ?_ next
        have h0 : ¬ len' < N' := by omega
        simp [execOp, Instr.arrayAt, hx, Sem.run_bind, run_underlying' hu, h0]
    · cases h
  · cases h
theorem VL_stap {d len N : Nat} {A : Option Addr} (h : stapOp P n ops l i = some (d, A, len, N)) (hi : Nat.blt i ops.size = true) (hN : N ≤ len) (next : VL r n ds P ops Q (i + 1) ((d, .pointer A) :: l) w) : VL r n ds P ops Q i l w :=
  VL_of_V1 hi (V1_stap h hN next)
end
/-- The first elements of what lies at a slice's address, as an array. -/
theorem Loads.slArr {w : World} {B b o N : Nat} {k : IntKind} {bs : List Int} {P : Program} {t : TypeId} (h : Sl w B (some ⟨b, o, none⟩) (iL k bs)) (ht : aggB P t = some N) (hn : N ≤ bs.length) : Loads P t w ⟨b, o, none⟩ (.agg (iA k (bs.take N))) := by
  refine Loads.cells ht _ (by simp [Nat.min_eq_left hn]) fun j hj => ?_
  have hj2 : j < bs.length := by omega
  rw [add_none, iA_get j (by rw [List.length_take]; omega), h.get j _ (iL_get j hj2)]
  simp only [List.getD, List.getElem?_take, if_pos hj]
end Go.Vc
end

section
/- Slices of a view whose address is of any kind: the result is a view again. -/
set_option linter.unusedVariables false
set_option linter.unusedSimpArgs false
namespace Go.Vc
open Go.RowKit
theorem movA_zero (A : Option Addr) (b : Bool) : movA A b 0 = A := by
  cases A with
  | none => rfl
  | some a => cases b <;> rfl
theorem Sl.mov {w : World} {B L H M sz : Nat} {A : Option Addr} {xs : List Value} (h : Sl w B A xs) (hM : H ≤ M) : Sl w B (movA A (decide (M = L)) (L * sz)) ((xs.drop (L * sz)).take ((H - L) * sz)) := by
  intro h0
  have h1 : 0 < xs.length := by simp at h0; omega
  obtain ⟨b, o, rfl, hb⟩ := h.open h1
  by_cases e : M = L
  · exfalso
    have : H - L = 0 := by omega
    rw [this, Nat.zero_mul, List.take_zero] at h0
    simp at h0
  · have hm : movA (some ⟨b, o, none⟩) (decide (M = L)) (L * sz) = some ⟨b, o + L * sz, none⟩ := by simp [movA, e, add_none]
    rw [hm]
    exact h.sub (L * sz) ((H - L) * sz) h0 |> fun ⟨b', o', hA, hb', hc⟩ => ⟨b', o', hA, hb', hc⟩
section
variable {r : Option Nat} {n : Nat} {ds : List Deferred} {P : Program} {ops : Array Oper} {Q : Exit → Act → World → Prop} {tbl : List (List Nat)} {m : Nat} {l : List (Nat × Value)} {R : World → World → Prop} {ch : List Nat} {w : World} {i : Nat}
theorem VT_sliceV {k d sz len cap B : Nat} {A : Option Addr} {xs : List Value} {lo hi mx : Option Int} {is : List Nat} {kn : List (Nat × Value)} (h : sliceOpA P n ops (lkn ops tbl m l kn k) k = some (d, A, sz, len, cap, lo, hi, mx)) (hd : dstOf ops k = some d) (hno : mx ≠ none → hi ≠ none) (hA : Sl w B A xs) (L H M : Nat)
    (hl : lo.getD 0 = L) (hh : hi.getD len = H) (hm : mx.getD cap = M) (h1 : L ≤ H) (h2 : H ≤ M) (h3 : M ≤ cap) (N : Nat) (hN : H - L = N) (C : Nat) (hC : M - L = C) (ys : List Value) (hy : (xs.drop (L * sz)).take (N * sz) = ys) (next : ∀ A', Sl w B A' ys → VT r n ds P ops Q tbl m l R ch is ((k, .slice A' N C) :: kn) w) : VT r n ds P ops Q tbl m l R ch (k :: is) kn w := by
  subst hN; subst hC; subst hy
  exact VT_sliceA h hd hno L H M hl hh hm h1 h2 h3 _ rfl _ rfl (next _ (hA.mov h2))
theorem VL_sliceV {d sz len cap B : Nat} {A : Option Addr} {xs : List Value} {lo hi mx : Option Int} (h : sliceOpA P n ops l i = some (d, A, sz, len, cap, lo, hi, mx)) (hi' : Nat.blt i ops.size = true) (hno : mx ≠ none → hi ≠ none) (hA : Sl w B A xs) (L H M : Nat)
    (hl : lo.getD 0 = L) (hh : hi.getD len = H) (hm : mx.getD cap = M) (h1 : L ≤ H) (h2 : H ≤ M) (h3 : M ≤ cap) (N : Nat) (hN : H - L = N) (C : Nat) (hC : M - L = C) (ys : List Value) (hy : (xs.drop (L * sz)).take (N * sz) = ys) (next : ∀ A', Sl w B A' ys → VL r n ds P ops Q (i + 1) ((d, .slice A' N C) :: l) w) : VL r n ds P ops Q i l w := by
  subst hN; subst hC; subst hy
  exact VL_sliceA h hi' hno L H M hl hh hm h1 h2 h3 _ rfl _ rfl (next _ (hA.mov h2))
end
theorem iL_dropTake {k : IntKind} (bs : List Int) (L N : Nat) : ((iL k bs).drop (L * 1)).take (N * 1) = iL k ((bs.drop L).take N) := by rw [iL_take, iL_drop, Nat.mul_one, Nat.mul_one]
theorem iL_takeV {k : IntKind} (bs : List Int) (N : Nat) : ((iL k bs).drop (0 * 1)).take (N * 1) = iL k (bs.take N) := by rw [iL_take, Nat.zero_mul, Nat.mul_one, List.drop_zero]
end Go.Vc
end

section
/- Rows of one's own whose elements have any number of cells; append to them; views whose block lies between two bounds. -/
set_option linter.unusedVariables false
set_option linter.unusedSimpArgs false
namespace Go.Vc
open Go.RowKit
/-- The block at which an address points. -/
def ownB (A : Option Addr) (k : Nat) : Prop := ∃ a, A = some a ∧ a.block = k
def RwS (w : World) (sz base : Nat) (e : TypeId) (A : Option Addr) (n c : Nat) (xs : List Value) : Prop := w.ownsRow base e sz (.slice A n c) n xs
section
variable {F : Nat → Prop} {w w' w0 : World} {B base base' n n' c c' sz : Nat} {e : TypeId} {A : Option Addr} {xs ys : List Value} {P : Program}
theorem RwS.len (h : RwS w sz base e A n c xs) : xs.length = n * sz := h.1
theorem RwS.nil (w : World) (sz base : Nat) (e : TypeId) : RwS w sz base e none 0 0 [] := World.ownsRow_nil w base e sz
theorem RwS.cast (h : RwS w sz base e A n c xs) (hn : n = n') (hx : xs = ys) : RwS w sz base e A n' c ys := by subst hn; subst hx; exact h
/-- What keeps the row's own block keeps the row. -/
theorem RwS.keepO (h : RwS w sz base e A n c xs) (hs : Step F w w') (hF : ∀ k, ownB A k → ¬ F k) : RwS w' sz base e A n c xs := by
  refine ⟨h.1, ?_⟩
  rcases h.2 with hn | ⟨g, cap, cur, hv, hb, hg, rest⟩
  · exact .inl hn
  · refine .inr ⟨g, cap, cur, hv, hb, (hs.block g (Array.getElem?_eq_some_iff.1 hg).1 (hF g ?_)).trans hg, rest⟩
    cases hv
    exact ⟨_, rfl, rfl⟩
theorem RwS.lt (h : RwS w sz base e A n c xs) (k : Nat) (hk : ownB A k) : base ≤ k ∧ k < w.heap.size := by
  obtain ⟨a, rfl, rfl⟩ := hk
  rcases h.2 with ⟨hv, _⟩ | ⟨g, cap, cur, hv, hb, hg, rest⟩
  · cases hv
  · cases hv; exact ⟨hb, (Array.getElem?_eq_some_iff.1 hg).1⟩
theorem RwS.step (h : RwS w sz base e A n c xs) (hs : Step F w w') (hF : ∀ k, base ≤ k → ¬ F k) : RwS w' sz base e A n c xs := h.keepO hs fun k hk => hF k (h.lt k hk).1
theorem RwS.no (h : RwS w sz base e A n c xs) (hs : Step No w w') : RwS w' sz base e A n c xs := h.step hs fun _ _ => id
theorem RwS.low (h : RwS w sz base e A n c xs) (hb : base' ≤ base) : RwS w sz base' e A n c xs := by
  refine ⟨h.1, ?_⟩
  rcases h.2 with hn | ⟨g, cap, cur, hv, hb', rest⟩
  · exact .inl hn
  · exact .inr ⟨g, cap, cur, hv, by omega, rest⟩
theorem RwS.cap (h : RwS w sz base e A n c xs) : n ≤ c := by
  rcases h.2 with ⟨hv, hn⟩ | ⟨g, cap, cur, hv, hb', _, hc, _⟩
  · cases hv; omega
  · cases hv; exact hc
/-- A view whose block lies between two bounds. -/
def Sl2 (w : World) (lo hi : Nat) (A : Option Addr) (xs : List Value) : Prop :=
  0 < xs.length → ∃ b o, A = some ⟨b, o, none⟩ ∧ lo ≤ b ∧ b < hi ∧ ∀ j u, xs[j]? = some u → w.cell? ⟨b, o + j, none⟩ = some u
theorem Sl2.sl {lo hi : Nat} (h : Sl2 w lo hi A xs) : Sl w hi A xs := fun h0 => by
  obtain ⟨b, o, hA, _, hb, hc⟩ := h h0
  exact ⟨b, o, hA, hb, hc⟩
theorem Sl.sl2 {hi : Nat} (h : Sl w hi A xs) : Sl2 w 0 hi A xs := fun h0 => by
  obtain ⟨b, o, hA, hb, hc⟩ := h h0
  exact ⟨b, o, hA, Nat.zero_le _, hb, hc⟩
theorem Sl2.step {lo hi : Nat} (h : Sl2 w lo hi A xs) (hs : Step F w w') (hF : ∀ k, lo ≤ k → k < hi → ¬ F k) : Sl2 w' lo hi A xs := by
  intro h0
  obtain ⟨b, o, hA, h1, h2, hc⟩ := h h0
  exact ⟨b, o, hA, h1, h2, fun j u hu => hs.cell (hF b h1 h2) (hc j u hu)⟩
theorem Sl2.mono {lo hi lo' hi' : Nat} (h : Sl2 w lo hi A xs) (h1 : lo' ≤ lo) (h2 : hi ≤ hi') : Sl2 w lo' hi' A xs := by
  intro h0
  obtain ⟨b, o, hA, h3, h4, hc⟩ := h h0
  exact ⟨b, o, hA, by omega, by omega, hc⟩
theorem RwS.sl2 (h : RwS w sz base e A n c xs) : Sl2 w base w.heap.size A xs := by
  intro h0
  rcases h.2 with ⟨hv, hn⟩ | ⟨g, cap, cur, hv, hb', hg, _, _, _, ht⟩
  · have := h.1; subst hn; rw [Nat.zero_mul] at this; omega
  · cases hv
    refine ⟨g, 0, rfl, hb', (Array.getElem?_eq_some_iff.1 hg).1, fun j u hu => ?_⟩
    rw [Nat.zero_add, (show Own w g cur e from hg).cell]
    rw [← ht, List.getElem?_take] at hu
    split at hu
    · simpa using hu
    · cases hu
theorem RwS.of_row {v : Value} (h : w.ownsRow base e sz v n xs) : ∃ A c, v = .slice A n c ∧ RwS w sz base e A n c xs := by
  rcases h.2 with ⟨hv, hn⟩ | ⟨g, cap, cur, hv, hb', _⟩
  · subst hv; subst hn; exact ⟨none, 0, rfl, h⟩
  · subst hv; exact ⟨_, _, rfl, h⟩
theorem RwS.grown (h : RwS w sz base e A n c xs) (hg : w.grownBy w' (Value.slice A n c).ownBlock) : Step (ownB A) w w' :=
  Step.of_grown hg fun k hk _ => by
    cases A with
    | none => cases hk
    | some a => simp only [Value.ownBlock, Option.some.injEq] at hk; exact ⟨a, rfl, hk⟩
theorem RwS.of_new {g : Nat} {cur : Array Value} (ho : Own w g cur e) (hb : base ≤ g) (hm : n ≤ maxLen) (hs : cur.size = n * sz) : RwS w sz base e (some ⟨g, 0, none⟩) n n cur.toList := by
  refine ⟨by simpa using hs, .inr ⟨g, n, cur, rfl, hb, ho, Nat.le_refl _, hm, hs, ?_⟩⟩
  rw [← hs, ← Array.length_toList, List.take_length]
/-- Rows of two types have two blocks. -/
theorem RwS.apart {sz' base' n' c' : Nat} {e' : TypeId} {A' : Option Addr} {ys : List Value} (h : RwS w sz base e A n c xs) (h' : RwS w sz' base' e' A' n' c' ys) (hne : e ≠ e') (k : Nat) (hk : ownB A k) : ¬ ownB A' k := by
  rintro ⟨a', rfl, rfl⟩
  obtain ⟨a, rfl, hab⟩ := hk
  rcases h.2 with ⟨hv, _⟩ | ⟨g, cap, cur, hv, _, hg, _⟩
  · cases hv
  · rcases h'.2 with ⟨hv', _⟩ | ⟨g', cap', cur', hv', _, hg', _⟩
    · cases hv'
    · cases hv; cases hv'
      simp only at hab
      subst hab
      rw [hg] at hg'
      simp only [Option.some.injEq, Obj.cells.injEq] at hg'
      exact hne hg'.2.1
theorem Rw.toS (h : Rw w base e A n c xs) : RwS w 1 base e A n c xs := h
theorem RwS.to1 (h : RwS w 1 base e A n c xs) : Rw w base e A n c xs := h
end
section
variable {r : Option Nat} {n : Nat} {ds : List Deferred} {P : Program} {ops : Array Oper} {Q : Exit → Act → World → Prop} {l : List (Nat × Value)} {w : World} {i : Nat} {K : List (Nat × Value) → World → Prop}
theorem V1_appendZ {d e m c m2 c2 sz bytes : Nat} {A A2 : Option Addr} (h : appOpS P n ops l i = some (d, e, A, m, c, A2, m2, c2)) (hi : appInfo P e = some (sz, bytes)) (base B : Nat) (xs news : List Value) (hown : RwS w sz base e A m c xs)
    (hl : news.length = m2 * sz) (hnews : Sl w B A2 news) (h1 : ∀ u ∈ news, oneC u = true) (h63 : m + m2 ≤ maxLen) (hbytes : (m + m2) * bytes ≤ 140737488355328) (hbase : base ≤ w.heap.size)
    (next : ∀ A' c' w', RwS w' sz base e A' (m + m2) c' (xs ++ news) → Step (ownB A) w w' → K ((d, .slice A' (m + m2) c') :: l) w') : V1 r n ds P ops Q i l w K := by
  unfold appInfo at hi
  split at hi
  · rename_i inf hinf
    split at hi
    · rename_i z hz
      cases hb : Nat.beq z.cells.size inf.size && Nat.blt 0 inf.size with
      | false => rw [hb] at hi; cases hi
      | true =>
        rw [hb] at hi
        simp only [cond_true, Option.some.injEq, Prod.mk.injEq] at hi
        obtain ⟨hsz, hby⟩ := hi
        simp only [Bool.and_eq_true] at hb
        have hzs := Nat.eq_of_beq_eq_true hb.1
        have hszp := blt_spec hb.2
        unfold appOpS at h
        split at h
        · rename_i _ d' ags ts ty pos aft gd ho
          split at h
          · rename_i t t' A0 m0 c0 A20 m20 c20 h0 h1' hv hx
            split at h
            · rename_i e' hu
              cases hq : Nat.blt d' n && Nat.beq t t' && Nat.beq ts.size 2 && Nat.beq ags.size 2 with
              | false => rw [hq] at h; cases h
              | true =>
                rw [hq] at h
                simp only [cond_true, Option.some.injEq, Prod.mk.injEq] at h
                obtain ⟨rfl, rfl, rfl, rfl, rfl, rfl, rfl, rfl⟩ := h
                simp only [Bool.and_eq_true] at hq
                obtain ⟨⟨⟨q1, q2⟩, q3⟩, q4⟩ := hq
                have q2 := Nat.eq_of_beq_eq_true q2
                subst q2
                have hts := arr2 (Nat.eq_of_beq_eq_true q3) h0 h1'
                have has := arr2 (by simpa using Nat.eq_of_beq_eq_true q4) hv hx
                rcases Nat.eq_zero_or_pos m20 with hz0 | hpos
                · subst hz0
                  obtain rfl : news = [] := List.eq_nil_of_length_eq_zero (by rw [hl, Nat.zero_mul])
                  refine V1_value ho rfl q1 ?_ (next A0 c0 w ((by simpa using hown : RwS w sz base e' A0 (m0 + 0) c0 (xs ++ []))) (Step.refl _ _))
                  simp only [execOp, resolve, invoke, builtin, Sem.run_bind, Sem.run_pure, Result.andThen_ok, has, hts, run_append_empty hu hinf A0 A20 m0 c0 c20 hown.cap]
                  rfl
                · obtain ⟨b', o', rfl, _⟩ := hnews.open (by rw [hl]; exact Nat.mul_pos hpos (by omega))
                  obtain ⟨v2, w2, hr, hr1, hr2, _⟩ := run_append_own (P := P) w base t ty e' inf z sz bytes hu hinf hz hsz hby (by rw [hzs, hsz]) (by omega) _ m0 xs hown ⟨b', o', none⟩ m20 c20 news hl (fun j u hj => by rw [add_none]; exact hnews.get j u hj) (fun u hu => oneC_oneCell (h1 u hu)) h63 hbytes hbase
                  obtain ⟨A', c', rfl, hR⟩ := RwS.of_row hr1
                  refine V1_value ho rfl q1 ?_ (next A' c' w2 hR (hown.grown hr2))
                  simp only [execOp, resolve, invoke, builtin, Sem.run_bind, Sem.run_pure, Result.andThen_ok, has, hts, hr]
            · cases h
          · cases h
        · cases h
    · cases hi
  · cases hi
theorem VL_appendZ {d e m c m2 c2 sz bytes : Nat} {A A2 : Option Addr} (h : appOpS P n ops l i = some (d, e, A, m, c, A2, m2, c2)) (hi' : Nat.blt i ops.size = true) (hi : appInfo P e = some (sz, bytes)) (base B : Nat) (xs news : List Value) (hown : RwS w sz base e A m c xs)
    (hl : news.length = m2 * sz) (hnews : Sl w B A2 news) (h1 : ∀ u ∈ news, oneC u = true) (N : Nat) (hN : m + m2 = N) (h63 : N ≤ maxLen) (hbytes : N * bytes ≤ 140737488355328) (hbase : base ≤ w.heap.size)
    (next : ∀ A' c' w', RwS w' sz base e A' N c' (xs ++ news) → Step (ownB A) w w' → VL r n ds P ops Q (i + 1) ((d, .slice A' N c') :: l) w') : VL r n ds P ops Q i l w := by
  subst hN
  exact VL_of_V1 hi' (V1_appendZ h hi base B xs news hown hl hnews h1 h63 hbytes hbase next)
end
section
variable {r : Option Nat} {n : Nat} {ds : List Deferred} {P : Program} {ops : Array Oper} {Q : Exit → Act → World → Prop} {tbl : List (List Nat)} {m : Nat} {l : List (Nat × Value)} {R : World → World → Prop} {ch : List Nat} {w : World}
theorem VTc_appendZ {k d e mm c m2 c2 sz bytes : Nat} {A A2 : Option Addr} {is : List Nat} {kn : List (Nat × Value)} (h : appOpS P n ops (lkn ops tbl m l kn k) k = some (d, e, A, mm, c, A2, m2, c2)) (hd : dstOf ops k = some d) (hi : appInfo P e = some (sz, bytes)) (base B : Nat) (xs news : List Value) (hown : RwS w sz base e A mm c xs)
    (hl : news.length = m2 * sz) (hnews : Sl w B A2 news) (h1 : ∀ u ∈ news, oneC u = true) (N : Nat) (hN : mm + m2 = N) (h63 : N ≤ maxLen) (hbytes : N * bytes ≤ 140737488355328) (hbase : base ≤ w.heap.size)
    (hR : ∀ w1, Step (ownB A) w w1 → R w w1)
    (next : ∀ A' c' w', RwS w' sz base e A' N c' (xs ++ news) → Step (ownB A) w w' → VT r n ds P ops Q tbl m l R ch is ((k, .slice A' N c') :: kn) w') : VTc r n ds P ops Q tbl m l R ch k is kn w := by
  subst hN
  exact V1_appendZ h hi base B xs news hown hl hnews h1 h63 hbytes hbase fun A' c' w' hr hs => ⟨hR w' hs, .inl ⟨_, d, hd, look_head, next A' c' w' hr hs⟩⟩
end
end Go.Vc
end

section
/- Blocks apart by the types of their elements. -/
set_option linter.unusedVariables false
set_option linter.unusedSimpArgs false
namespace Go.Vc
open Go.RowKit
def TyB (w : World) (e : TypeId) (k : Nat) : Prop := ∃ c fr, w.heap[k]? = some (.cells c e fr)
/-- Only blocks of one type, from a base on, may have been turned. -/
def StepT (e : TypeId) (base : Nat) (w w' : World) : Prop := Step (fun k => base ≤ k ∧ TyB w e k) w w'
section
variable {F : Nat → Prop} {w w' w'' w0 : World} {B b base base' n n' c c' sz : Nat} {e e' : TypeId} {A : Option Addr} {xs ys : List Value} {P : Program} {cs : Array Value}
theorem TyB.ne {i : Nat} (h : TyB w e i) (ho : Own w b cs e') (hne : e ≠ e') : ¬ i = b := by
  rintro rfl
  obtain ⟨c, fr, h⟩ := h
  rw [ho] at h
  simp only [Option.some.injEq, Obj.cells.injEq] at h
  exact hne h.2.1.symm
theorem RwS.tyB (h : RwS w sz base e A n c xs) {i : Nat} (hi : ownB A i) : TyB w e i := by
  obtain ⟨a, rfl, rfl⟩ := hi
  rcases h.2 with ⟨hv, _⟩ | ⟨g, cap, cur, hv, _, hg, _⟩
  · cases hv
  · cases hv; exact ⟨_, _, hg⟩
theorem RwS.stepT (h : RwS w sz base e A n c xs) (hs : Step (ownB A) w w') : StepT e base w w' := hs.mono fun i hi => ⟨(h.lt i hi).1, h.tyB hi⟩
theorem StepT.refl (e : TypeId) (base : Nat) (w : World) : StepT e base w w := Step.refl _ _
theorem StepT.size (h : StepT e base w w') : w.heap.size ≤ w'.heap.size := Step.size h
theorem StepT.trans (h : StepT e base w w') (k : StepT e base w' w'') : StepT e base w w'' :=
  ⟨k.os.trans h.os, k.tape.trans h.tape, k.output.trans h.output, Nat.le_trans h.size k.size, fun i hi hF => by
    have h1 := Step.block h i hi hF
    refine (Step.block k i (Nat.lt_of_lt_of_le hi h.size) fun ⟨h2, c, fr, h3⟩ => hF ⟨h2, c, fr, ?_⟩).trans h1
    rw [← h1]; exact h3⟩
theorem StepT.no (h : StepT e base w w') (k : Step No w' w'') : StepT e base w w'' := Step.trans h k.weak
/-- A step at new blocks. -/
theorem StepT.new (h : StepT e base w w') (k : Step F w' w'') (hF : ∀ i, F i → w.heap.size ≤ i) : StepT e base w w'' :=
  Step.transNew h k fun i hi hG => absurd (hF i hG) (by omega)
theorem StepT.low (h : StepT e base w w') (hb : base' ≤ base) : StepT e base' w w' := Step.mono h fun i hi => ⟨by omega, hi.2⟩
theorem StepT.old (h : StepT e base w w') (hb : w.heap.size ≤ base) : Step No w w' := ⟨h.os, h.tape, h.output, h.size, fun i hi _ => Step.block h i hi fun hF => by omega⟩
theorem RwS.stepN (h : RwS w sz base e A n c xs) (hs : Step F w w') (hF : ∀ k, base ≤ k → k < w.heap.size → ¬ F k) : RwS w' sz base e A n c xs := h.keepO hs fun k hk => hF k (h.lt k hk).1 (h.lt k hk).2
theorem Rw.stepN (h : Rw w base e A n c xs) (hs : Step F w w') (hF : ∀ k, base ≤ k → k < w.heap.size → ¬ F k) : Rw w' base e A n c xs := RwS.stepN h hs hF
/-- All of a row lies below a bound. -/
def UbA (A : Option Addr) (H : Nat) : Prop := ∀ k, ownB A k → k < H
theorem RwS.ub (h : RwS w sz base e A n c xs) : UbA A w.heap.size := fun k hk => (h.lt k hk).2
theorem Rw.ub (h : Rw w base e A n c xs) : UbA A w.heap.size := RwS.ub h
theorem RwS.stepU {H : Nat} (h : RwS w sz base e A n c xs) (hu : UbA A H) (hs : Step F w w') (hF : ∀ k, base ≤ k → k < H → ¬ F k) : RwS w' sz base e A n c xs := h.keepO hs fun k hk => hF k (h.lt k hk).1 (hu k hk)
theorem Rw.stepU {H : Nat} (h : Rw w base e A n c xs) (hu : UbA A H) (hs : Step F w w') (hF : ∀ k, base ≤ k → k < H → ¬ F k) : Rw w' base e A n c xs := RwS.stepU h hu hs hF
theorem RwS.keepT (h : RwS w sz base e A n c xs) (ho : Own w b cs e') (hne : e ≠ e') (hs : Step (Just b) w w') : RwS w' sz base e A n c xs :=
  h.keepO hs fun k hk hF => (h.tyB hk).ne ho hne hF
theorem Rw.keepT (h : Rw w base e A n c xs) (ho : Own w b cs e') (hne : e ≠ e') (hs : Step (Just b) w w') : Rw w' base e A n c xs := RwS.keepT h ho hne hs
/-- A row of another type. -/
theorem RwS.keepTT (h : RwS w sz base e A n c xs) (hne : e ≠ e') (hs : StepT e' base' w w') : RwS w' sz base e A n c xs :=
  h.keepO hs fun k hk ⟨_, c1, fr1, h1⟩ => by
    obtain ⟨c2, fr2, h2⟩ := h.tyB hk
    rw [h1] at h2
    simp only [Option.some.injEq, Obj.cells.injEq] at h2
    exact hne h2.2.1.symm
theorem Rw.keepTT (h : Rw w base e A n c xs) (hne : e ≠ e') (hs : StepT e' base' w w') : Rw w' base e A n c xs := RwS.keepTT h hne hs
end
section
variable {r : Option Nat} {n : Nat} {ds : List Deferred} {P : Program} {ops : Array Oper} {Q : Exit → Act → World → Prop} {tbl : List (List Nat)} {m : Nat} {l : List (Nat × Value)} {R : World → World → Prop} {ch : List Nat} {w : World} {i : Nat}
theorem VL_appendT {d e m c m2 c2 bytes : Nat} {A A2 : Option Addr} (h : appOpS P n ops l i = some (d, e, A, m, c, A2, m2, c2)) (hi' : Nat.blt i ops.size = true) (hi : appInfo P e = some (1, bytes)) (base B : Nat) (xs news : List Value) (hown : Rw w base e A m c xs)
    (hl : news.length = m2) (hnews : Sl w B A2 news) (h1 : ∀ u ∈ news, oneC u = true) (N : Nat) (hN : m + m2 = N) (h63 : N ≤ maxLen) (hbytes : N * bytes ≤ 140737488355328) (hbase : base ≤ w.heap.size)
    (next : ∀ A' c' w', Rw w' base e A' N c' (xs ++ news) → StepT e base w w' → VL r n ds P ops Q (i + 1) ((d, .slice A' N c') :: l) w') : VL r n ds P ops Q i l w :=
  VL_appendZ h hi' hi base B xs news hown.toS (by omega) hnews h1 N hN h63 hbytes hbase fun A' c' w' hr hs => next A' c' w' hr.to1 (hown.toS.stepT hs)
theorem VTc_appendT {k d e mm c m2 c2 bytes : Nat} {A A2 : Option Addr} {is : List Nat} {kn : List (Nat × Value)} (h : appOpS P n ops (lkn ops tbl m l kn k) k = some (d, e, A, mm, c, A2, m2, c2)) (hd : dstOf ops k = some d) (hi : appInfo P e = some (1, bytes)) (base B : Nat) (xs news : List Value) (hown : Rw w base e A mm c xs)
    (hl : news.length = m2) (hnews : Sl w B A2 news) (h1 : ∀ u ∈ news, oneC u = true) (N : Nat) (hN : mm + m2 = N) (h63 : N ≤ maxLen) (hbytes : N * bytes ≤ 140737488355328) (hbase : base ≤ w.heap.size)
    (hR : ∀ w1, StepT e base w w1 → R w w1)
    (next : ∀ A' c' w', Rw w' base e A' N c' (xs ++ news) → StepT e base w w' → VT r n ds P ops Q tbl m l R ch is ((k, .slice A' N c') :: kn) w') : VTc r n ds P ops Q tbl m l R ch k is kn w :=
  VTc_appendZ h hd hi base B xs news hown.toS (by omega) hnews h1 N hN h63 hbytes hbase (fun w1 hs => hR w1 (hown.toS.stepT hs)) fun A' c' w' hr hs => next A' c' w' hr.to1 (hown.toS.stepT hs)
end
end Go.Vc
end

section
/- Drawn regions: new rows whose order is open. -/
set_option linter.unusedVariables false
set_option linter.unusedSimpArgs false
namespace Go.Vc
open Go.RowKit
section
variable {r : Option Nat} {n : Nat} {ds : List Deferred} {P : Program} {ops : Array Oper} {Q : Exit → Act → World → Prop} {l : List (Nat × Value)} {w : World}
theorem Ex1_bs {k d : Nat} {e : TypeId} {c : Array Value} {len : Nat} {B : Value → World → Prop} (h : bsOp P n ops l k = some (d, e, c, len)) (hd : dstOf ops k = some d) (hs : ∀ b w1, New w w1 b (.cells c e) → B (.slice (some ⟨b, 0, none⟩) len len) w1) : Ex1 r n ds P ops Q w l k B :=
  V1_bs h fun b w1 hn => ⟨_, d, hd, look_head, hn.step No, hs b w1 hn⟩
end
end Go.Vc
end

section
/- Lists of bytes, and numbers out of them. -/
set_option linter.unusedVariables false
set_option linter.unusedSimpArgs false
namespace Go.Proofs.Ytejpcmjokamdcaa
open Go.Vc
def Bytes (bs : List Int) : Prop := ∀ x ∈ bs, 0 ≤ x ∧ x < 256
theorem Bytes.get {bs : List Int} (h : Bytes bs) (j : Nat) : 0 ≤ bs.getD j 0 ∧ bs.getD j 0 < 256 := by
  by_cases hj : j < bs.length
  · rw [List.getD, List.getElem?_eq_getElem hj]; exact h _ (List.getElem_mem hj)
  · rw [List.getD, List.getElem?_eq_none (by omega)]; simp
theorem Bytes.drop {bs : List Int} (h : Bytes bs) (j : Nat) : Bytes (bs.drop j) := fun x hx => h x (List.mem_of_mem_drop hx)
theorem Bytes.take {bs : List Int} (h : Bytes bs) (j : Nat) : Bytes (bs.take j) := fun x hx => h x (List.mem_of_mem_take hx)
theorem Bytes.app {xs ys : List Int} (h : Bytes xs) (h' : Bytes ys) : Bytes (xs ++ ys) := fun x hx => (List.mem_append.1 hx).elim (h x) (h' x)
theorem wrap_u8 (x : Nat) : IntKind.wrap .u8 (x : Int) = ((x % 2 ^ 8 : Nat) : Int) := by
  unfold IntKind.wrap
  simp [IntKind.signed, IntKind.bits]
theorem fdiv_nat (a k : Nat) : ((a : Int).fdiv (2 ^ k)) = ((a / 2 ^ k : Nat) : Int) := by
  rw [Int.fdiv_eq_ediv_of_nonneg _ (Int.le_of_lt (Int.pow_pos (by omega))), show ((2 : Int) ^ k) = ((2 ^ k : Nat) : Int) by rw [Int.natCast_pow]; rfl, ← Int.natCast_ediv]
theorem byte_wrap (x : Int) : 0 ≤ IntKind.wrap .u8 x ∧ IntKind.wrap .u8 x < 256 := by
  unfold IntKind.wrap
  simp only [IntKind.signed, IntKind.bits, Bool.false_and, Bool.false_eq_true, if_false]
  omega
theorem or_byte (a b : Nat) (hb : b < 256) : a * 256 ||| b = a * 256 + b := by
  rw [show a * 256 = 2 ^ 8 * a by omega, Nat.two_pow_add_eq_or_of_lt (by omega)]
theorem bOr_i64 (a b : Nat) (ha : a < 2 ^ 62) (hb : b < 2 ^ 62) : bOr .i64 (a : Int) (b : Int) = ((a ||| b : Nat) : Int) := by
  unfold bOr
  rw [BitVec.ofInt_natCast, BitVec.ofInt_natCast, BitVec.toNat_or, BitVec.toNat_ofNat, BitVec.toNat_ofNat]
  show IntKind.wrap .i64 (((a % 2 ^ 64 ||| b % 2 ^ 64 : Nat)) : Int) = _
  have h := Nat.or_lt_two_pow ha hb
  rw [Nat.mod_eq_of_lt (by omega), Nat.mod_eq_of_lt (by omega), wrap_i64 _ (by omega) (by omega)]
theorem Bytes.nil : Bytes [] := fun x hx => by simp at hx
theorem Bytes.cons {x : Int} {xs : List Int} (h : 0 ≤ x ∧ x < 256) (h' : Bytes xs) : Bytes (x :: xs) := fun y hy => (List.mem_cons.1 hy).elim (fun e => e ▸ h) (h' y)
theorem Bytes.head {x : Int} {xs : List Int} (h : Bytes (x :: xs)) : 0 ≤ x ∧ x < 256 := h x (by simp)
theorem Bytes.tail {x : Int} {xs : List Int} (h : Bytes (x :: xs)) : Bytes xs := fun y hy => h y (by simp [hy])
theorem bytes_getD {bs : List Int} (h : Bytes bs) (j : Nat) : ∃ a : Nat, bs.getD j 0 = (a : Int) ∧ a < 256 := by
  have := h.get j
  exact ⟨(bs.getD j 0).toNat, by omega, by omega⟩
end Go.Proofs.Ytejpcmjokamdcaa
end

section
/- Layer 15: elements as they lie in memory, and what they tell. -/
set_option linter.unusedVariables false
set_option linter.unusedSimpArgs false
namespace Go.Proofs.Ytejpcmjokamdcaa
open Go.Vc
/-- An element: its number, and where its body lies. -/
structure IeV where
  id : Int
  A : Option Addr
  n : Nat
  c : Nat
  bs : List Int
abbrev IeD := Int × List Int
def IeV.val (x : IeV) : IeD := (x.id, x.bs)
def vals (l : List IeV) : List IeD := l.map IeV.val
def ieC (x : IeV) : List Value := [.int .u8 x.id, .slice x.A x.n x.c]
def ieL (l : List IeV) : List Value := l.flatMap ieC
theorem ieL_nil : ieL [] = [] := rfl
theorem ieL_app (l l' : List IeV) : ieL (l ++ l') = ieL l ++ ieL l' := by simp [ieL]
theorem ieL_one (x : IeV) : ieL [x] = ieC x := by simp [ieL]
theorem ieL_len (l : List IeV) : (ieL l).length = l.length * 2 := by
  induction l with
  | nil => rfl
  | cons x r ih => rw [show ieL (x :: r) = ieC x ++ ieL r from List.flatMap_cons, List.length_append, ih, List.length_cons]; simp [ieC]; omega
theorem ieL_get {l : List IeV} {i : Nat} {x : IeV} (h : l[i]? = some x) : (ieL l)[i * 2]? = some (.int .u8 x.id) ∧ (ieL l)[i * 2 + 1]? = some (.slice x.A x.n x.c) := by
  induction l generalizing i with
  | nil => simp at h
  | cons y r ih =>
    rw [show ieL (y :: r) = ieC y ++ ieL r from List.flatMap_cons]
    cases i with
    | zero => simp at h; subst h; exact ⟨rfl, rfl⟩
    | succ i =>
      simp at h
      have := ih h
      rw [show (i + 1) * 2 = i * 2 + 2 by omega, show i * 2 + 2 + 1 = (i * 2 + 1) + 2 by omega]
      exact ⟨by simpa [ieC] using this.1, by simpa [ieC] using this.2⟩
theorem ieL_take (l : List IeV) (k : Nat) : (ieL l).take (k * 2) = ieL (l.take k) := by
  induction l generalizing k with
  | nil => simp [ieL]
  | cons y r ih =>
    cases k with
    | zero => simp [ieL]
    | succ k => rw [show ieL (y :: r) = ieC y ++ ieL r from List.flatMap_cons, List.take_succ_cons, show ieL (y :: r.take k) = ieC y ++ ieL (r.take k) from List.flatMap_cons, ← ih, List.take_append, List.take_of_length_le (by simp [ieC]; omega)]; congr 2; simp [ieC]; omega
theorem ieL_drop (l : List IeV) (k : Nat) : (ieL l).drop (k * 2) = ieL (l.drop k) := by
  induction l generalizing k with
  | nil => simp [ieL]
  | cons y r ih =>
    cases k with
    | zero => simp [ieL]
    | succ k => rw [show ieL (y :: r) = ieC y ++ ieL r from List.flatMap_cons, List.drop_succ_cons, ← ih, List.drop_append, List.drop_of_length_le (by simp [ieC]; omega), List.nil_append]; congr 1; simp [ieC]; omega
theorem ieL_ones {l : List IeV} : ∀ u ∈ ieL l, oneC u = true := by
  intro u hu
  obtain ⟨x, _, hx⟩ := List.mem_flatMap.1 hu
  simp only [ieC, List.mem_cons, List.mem_nil_iff, or_false] at hx
  rcases hx with rfl | rfl <;> rfl
/-- An element's body lies between two bounds. -/
structure IeOk (w : World) (lo hi : Nat) (x : IeV) : Prop where
  len : x.bs.length = x.n
  cap : x.n ≤ x.c
  sl : Sl2 w lo hi x.A (iL .u8 x.bs)
def IeB (x : IeV) : Prop := (0 ≤ x.id ∧ x.id < 256) ∧ Bytes x.bs
structure Ies (w : World) (lo hi : Nat) (A : Option Addr) (l : List IeV) : Prop where
  sl : Sl2 w lo hi A (ieL l)
  all : ∀ x ∈ l, IeOk w lo hi x
section
variable {F : Nat → Prop} {w w' : World} {lo hi lo' hi' : Nat} {A : Option Addr} {l : List IeV} {x : IeV} {P : Program}
theorem IeOk.step (h : IeOk w lo hi x) (hs : Step F w w') (hF : ∀ k, lo ≤ k → k < hi → ¬ F k) : IeOk w' lo hi x := ⟨h.len, h.cap, h.sl.step hs hF⟩
theorem IeOk.mono (h : IeOk w lo hi x) (h1 : lo' ≤ lo) (h2 : hi ≤ hi') : IeOk w lo' hi' x := ⟨h.len, h.cap, h.sl.mono h1 h2⟩
theorem Ies.step (h : Ies w lo hi A l) (hs : Step F w w') (hF : ∀ k, lo ≤ k → k < hi → ¬ F k) : Ies w' lo hi A l := ⟨h.sl.step hs hF, fun x hx => (h.all x hx).step hs hF⟩
theorem Ies.no (h : Ies w lo hi A l) (hs : Step No w w') : Ies w' lo hi A l := h.step hs fun _ _ _ => id
theorem Ies.mono (h : Ies w lo hi A l) (h1 : lo' ≤ lo) (h2 : hi ≤ hi') : Ies w lo' hi' A l := ⟨h.sl.mono h1 h2, fun x hx => (h.all x hx).mono h1 h2⟩
theorem Ies.nil : Ies w lo hi A [] := ⟨fun h => by simp [ieL] at h, fun x hx => by simp at hx⟩
theorem Ies.open (h : Ies w lo hi A l) (h0 : 0 < l.length) : ∃ b o, A = some ⟨b, o, none⟩ ∧ b < hi := by
  obtain ⟨b, o, hA, _, hb, _⟩ := h.sl (by rw [ieL_len]; omega)
  exact ⟨b, o, hA, hb⟩
theorem Ies.body {i : Nat} (h : Ies w lo hi A l) (hx : l[i]? = some x) : x.bs.length = x.n ∧ x.n ≤ x.c ∧ Sl w hi x.A (iL .u8 x.bs) :=
  have := h.all x (List.mem_of_getElem? hx)
  ⟨this.len, this.cap, this.sl.sl⟩
theorem Ies.ld {b o i : Nat} {t : TypeId} (h : Ies w lo hi (some ⟨b, o, none⟩) l) (ht : aggB P t = some 2) (hx : l[i]? = some x) : Loads P t w ⟨b, o + i * 2, none⟩ (.agg #[.int .u8 x.id, .slice x.A x.n x.c]) := by
  have hg := ieL_get hx
  have hs := h.sl.sl
  refine Loads.cells ht _ rfl fun j hj => ?_
  rw [add_none]
  match j, hj with
  | 0, _ => exact hs.get _ _ hg.1
  | 1, _ => rw [Nat.add_assoc]; exact hs.get _ _ hg.2
theorem Ies.ld0 {b o i : Nat} {t : TypeId} (h : Ies w lo hi (some ⟨b, o, none⟩) l) (ht : oneB P t = true) (hx : l[i]? = some x) : Loads P t w ⟨b, o + i * 2, none⟩ (.int .u8 x.id) := h.sl.sl.ld ht _ (ieL_get hx).1
theorem Ies.ld1 {b o i : Nat} {t : TypeId} (h : Ies w lo hi (some ⟨b, o, none⟩) l) (ht : oneB P t = true) (hx : l[i]? = some x) : Loads P t w ⟨b, o + i * 2 + 1, none⟩ (.slice x.A x.n x.c) := by
  rw [Nat.add_assoc]; exact h.sl.sl.ld ht _ (ieL_get hx).2
end
/-- Elements as a row of one's own, their bodies rows, too. -/
structure Ier (w : World) (base : Nat) (e eB : TypeId) (A : Option Addr) (n c : Nat) (l : List IeV) : Prop where
  row : RwS w 2 base e A n c (ieL l)
  len : l.length = n
  body : ∀ x ∈ l, Rw w base eB x.A x.n x.c (iL .u8 x.bs)
section
variable {F : Nat → Prop} {w w' : World} {base n c : Nat} {e eB : TypeId} {A : Option Addr} {l : List IeV} {x : IeV} {P : Program}
theorem Ier.nil (w : World) (base : Nat) (e eB : TypeId) : Ier w base e eB none 0 0 [] := ⟨RwS.nil w 2 base e, rfl, fun x hx => by simp at hx⟩
theorem Ier.step (h : Ier w base e eB A n c l) (hs : Step F w w') (hF : ∀ k, base ≤ k → ¬ F k) : Ier w' base e eB A n c l := ⟨h.row.step hs hF, h.len, fun x hx => (h.body x hx).step hs hF⟩
theorem Ier.no (h : Ier w base e eB A n c l) (hs : Step No w w') : Ier w' base e eB A n c l := h.step hs fun _ _ => id
theorem Ier.low {base' : Nat} (h : Ier w base e eB A n c l) (hb : base' ≤ base) : Ier w base' e eB A n c l := ⟨h.row.low hb, h.len, fun x hx => (h.body x hx).low hb⟩
theorem Ier.push {A' : Option Addr} {c' : Nat} (h : Ier w base e eB A n c l) (hne : eB ≠ e) (hx : Rw w base eB x.A x.n x.c (iL .u8 x.bs)) (hs : Step (ownB A) w w') (hr : RwS w' 2 base e A' (n + 1) c' (ieL l ++ ieC x)) : Ier w' base e eB A' (n + 1) c' (l ++ [x]) := by
  refine ⟨by rw [ieL_app, ieL_one]; exact hr, by simp [h.len], fun y hy => ?_⟩
  have key : ∀ y : IeV, Rw w base eB y.A y.n y.c (iL .u8 y.bs) → Rw w' base eB y.A y.n y.c (iL .u8 y.bs) := fun y hy => (RwS.keepO hy.toS hs fun k hk => RwS.apart hy.toS h.row hne k hk).to1
  rcases List.mem_append.1 hy with hy | hy
  · exact key y (h.body y hy)
  · simp at hy; subst hy; exact key y hx
theorem Ier.stepN (h : Ier w base e eB A n c l) (hs : Step F w w') (hF : ∀ k, base ≤ k → k < w.heap.size → ¬ F k) : Ier w' base e eB A n c l := ⟨h.row.stepN hs hF, h.len, fun x hx => (h.body x hx).stepN hs hF⟩
structure IerUb (A : Option Addr) (l : List IeV) (H : Nat) : Prop where
  row : UbA A H
  body : ∀ x ∈ l, UbA x.A H
theorem Ier.ub (h : Ier w base e eB A n c l) : IerUb A l w.heap.size := ⟨h.row.ub, fun x hx => (h.body x hx).ub⟩
theorem Ier.stepU {H : Nat} (h : Ier w base e eB A n c l) (hu : IerUb A l H) (hs : Step F w w') (hF : ∀ k, base ≤ k → k < H → ¬ F k) : Ier w' base e eB A n c l := ⟨h.row.stepU hu.row hs hF, h.len, fun x hx => (h.body x hx).stepU (hu.body x hx) hs hF⟩
theorem Ier.keepT {b e' : Nat} {cs : Array Value} (h : Ier w base e eB A n c l) (ho : Own w b cs e') (hne : e ≠ e') (hneB : eB ≠ e') (hs : Step (Just b) w w') : Ier w' base e eB A n c l :=
  ⟨h.row.keepT ho hne hs, h.len, fun x hx => (h.body x hx).keepT ho hneB hs⟩
theorem Ier.ies (h : Ier w base e eB A n c l) : Ies w base w.heap.size A l :=
  ⟨h.row.sl2, fun x hx => ⟨(h.body x hx).lenI, (h.body x hx).cap, (h.body x hx).toS.sl2⟩⟩
end
/-! ### Numbers as bytes -/
def digL (v many : Nat) : List Int := (List.range many).map fun j => IntKind.wrap .u8 (((v : Nat) : Int).fdiv (2 ^ (8 * (many - 1 - j))))
theorem digL_len (v many : Nat) : (digL v many).length = many := by simp [digL]
theorem digL_succ (v j many : Nat) (h : j < many) : (digL v many).take j ++ [IntKind.wrap .u8 (((v : Nat) : Int).fdiv (2 ^ (8 * (many - 1 - j))))] = (digL v many).take (j + 1) := by
  rw [List.take_add_one]
  congr 1
  simp [digL, h]
theorem digL_bytes (v many : Nat) : Bytes (digL v many) := by
  intro x hx
  obtain ⟨j, _, rfl⟩ := List.mem_map.1 hx
  exact byte_wrap _
theorem digL_2 {n : Nat} (h : n < 256) : digL n 2 = [0, ((n : Nat) : Int)] := by
  have h1 : digL n 2 = [IntKind.wrap .u8 (((n : Nat) : Int).fdiv (2 ^ 8)), IntKind.wrap .u8 (((n : Nat) : Int).fdiv (2 ^ 0))] := rfl
  rw [h1, fdiv_nat, fdiv_nat, wrap_u8, wrap_u8, show n / 2 ^ 8 = 0 by omega, Nat.pow_zero, Nat.div_one, Nat.mod_eq_of_lt (show n < 2 ^ 8 by omega)]; rfl
/-- The number that bytes are, the first one the highest. -/
def natL (bs : List Int) : Nat := bs.foldl (fun n x => n * 256 + x.toNat) 0
def getL (bs : List Int) : Int := bs.foldl (fun n x => bOr .i64 (IntKind.wrap .i64 (n * 2 ^ 8)) (IntKind.wrap .i64 x)) 0
def numL (bs : List Int) : Int := bs.foldl (fun n x => IntKind.wrap .i64 (IntKind.wrap .i64 (n * 256) + IntKind.wrap .i64 x)) 0
theorem getL_succ {bs : List Int} {j : Nat} (h : j < bs.length) : getL (bs.take (j + 1)) = bOr .i64 (IntKind.wrap .i64 (getL (bs.take j) * 2 ^ 8)) (IntKind.wrap .i64 (bs.getD j 0)) := by
  unfold getL
  rw [List.take_add_one, List.getElem?_eq_getElem h, List.foldl_append]
  simp only [Option.toList_some, List.foldl_cons, List.foldl_nil, List.getD, List.getElem?_eq_getElem h, Option.getD_some]
theorem numL_succ {bs : List Int} {j : Nat} (h : j < bs.length) : numL (bs.take (j + 1)) = IntKind.wrap .i64 (IntKind.wrap .i64 (numL (bs.take j) * 256) + IntKind.wrap .i64 (bs.getD j 0)) := by
  unfold numL
  rw [List.take_add_one, List.getElem?_eq_getElem h, List.foldl_append]
  simp only [Option.toList_some, List.foldl_cons, List.foldl_nil, List.getD, List.getElem?_eq_getElem h, Option.getD_some]
theorem natL_lt : ∀ (bs : List Int) (a : Nat), Bytes bs → bs.foldl (fun n x => n * 256 + x.toNat) a < (a + 1) * 256 ^ bs.length
  | [], a, _ => by simp
  | x :: r, a, h => by
    have h1 := natL_lt r (a * 256 + x.toNat) h.tail
    have h2 := h.head
    rw [List.foldl_cons, List.length_cons, Nat.pow_succ]
    refine Nat.lt_of_lt_of_le h1 ?_
    rw [Nat.mul_comm (256 ^ r.length) 256, ← Nat.mul_assoc]
    exact Nat.mul_le_mul_right _ (by omega)
theorem getL_go (f : Int → Int → Int) (hf : ∀ (a b : Nat), a < 2 ^ 48 → b < 256 → f (a : Int) (b : Int) = ((a * 256 + b : Nat) : Int)) : ∀ (bs : List Int) (a : Nat), Bytes bs → (a + 1) * 256 ^ bs.length ≤ 2 ^ 56 → bs.foldl f (a : Int) = ((bs.foldl (fun n x => n * 256 + x.toNat) a : Nat) : Int)
  | [], a, _, _ => rfl
  | x :: r, a, h, hl => by
    have h2 := h.head
    rw [List.length_cons, Nat.pow_succ] at hl
    have hp : 1 ≤ 256 ^ r.length := Nat.one_le_pow _ _ (by omega)
    have ha : (a + 1) * 256 ≤ 2 ^ 56 := by
      refine Nat.le_trans ?_ hl
      rw [Nat.mul_comm (256 ^ r.length) 256, ← Nat.mul_assoc]
      exact Nat.le_mul_of_pos_right _ hp
    obtain ⟨b, rfl⟩ : ∃ b : Nat, x = (b : Int) := ⟨x.toNat, by omega⟩
    rw [List.foldl_cons, List.foldl_cons, hf a b (by omega) (by omega)]
    refine getL_go f hf r _ h.tail (Nat.le_trans ?_ hl)
    rw [Nat.mul_comm (256 ^ r.length) 256, ← Nat.mul_assoc]
    exact Nat.mul_le_mul_right _ (by omega)
theorem getL_eq {bs : List Int} (h : Bytes bs) (hl : bs.length ≤ 6) : getL bs = ((natL bs : Nat) : Int) :=
  getL_go _ (fun a b ha hb => by
    rw [show ((a : Nat) : Int) * 2 ^ 8 = ((a * 256 : Nat) : Int) by omega, wrap_i64 _ (by omega) (by omega), wrap_i64 _ (by omega) (by omega), bOr_i64 _ _ (by omega) (by omega), or_byte _ _ hb]) bs 0 h (by
      have : 256 ^ bs.length ≤ 256 ^ 6 := Nat.pow_le_pow_right (by omega) hl
      omega)
theorem numL_eq {bs : List Int} (h : Bytes bs) (hl : bs.length ≤ 6) : numL bs = ((natL bs : Nat) : Int) :=
  getL_go _ (fun a b ha hb => by
    rw [show ((a : Nat) : Int) * 256 = ((a * 256 : Nat) : Int) by omega, wrap_i64 ((a * 256 : Nat) : Int) (by omega) (by omega), wrap_i64 ((b : Nat) : Int) (by omega) (by omega), wrap_i64 _ (by omega) (by omega)]; omega) bs 0 h (by
      have : 256 ^ bs.length ≤ 256 ^ 6 := Nat.pow_le_pow_right (by omega) hl
      omega)
theorem natL_2 {bs : List Int} (h : bs.length = 2) : natL bs = (bs.getD 0 0).toNat * 256 + (bs.getD 1 0).toNat := by
  rcases bs with _ | ⟨a, _ | ⟨b, _ | ⟨c, r⟩⟩⟩ <;> simp_all [natL]
end Go.Proofs.Ytejpcmjokamdcaa
end

section
/- Layer 15 in plain Lean: elements as bytes, and bytes as elements. -/
set_option linter.unusedVariables false
set_option linter.unusedSimpArgs false
namespace Go.Proofs.Ytejpcmjokamdcaa
open Go.Vc
def packB (x : IeD) : List Int := x.1 :: 128 :: 0 :: ((x.2.length : Nat) : Int) :: x.2
def packL (l : List IeD) : List Int := l.flatMap packB
def okL (l : List IeD) : Prop := l.length ≤ 16 ∧ ∀ x ∈ l, x.2.length ≤ 200
instance (l : List IeD) : Decidable (okL l) := by unfold okL; infer_instance
def packT (l : List IeD) : List Int := if okL l then packL l else []
def packE (l : List IeD) : Int := if okL l then 0 else 6
theorem packL_nil : packL [] = [] := rfl
theorem packL_cons (x : IeD) (l : List IeD) : packL (x :: l) = packB x ++ packL l := List.flatMap_cons
theorem packL_app (l l' : List IeD) : packL (l ++ l') = packL l ++ packL l' := by simp [packL]
theorem packB_len (x : IeD) : (packB x).length = 4 + x.2.length := by simp [packB]; omega
theorem packL_succ {l : List IeD} {k : Nat} {x : IeD} (h : l[k]? = some x) : packL (l.take (k + 1)) = packL (l.take k) ++ packB x := by
  rw [List.take_add_one, h, packL_app]; simp [packL]
theorem packL_le (l : List IeD) (h : ∀ x ∈ l, x.2.length ≤ 200) : (packL l).length ≤ l.length * 204 := by
  induction l with
  | nil => simp [packL]
  | cons x r ih =>
    have := ih fun y hy => h y (by simp [hy])
    have := h x (by simp)
    rw [packL_cons, List.length_append, packB_len, List.length_cons]; omega
theorem packT_le (l : List IeD) : (packT l).length ≤ 3264 := by
  unfold packT
  by_cases h : okL l
  · rw [if_pos h]; have := packL_le l h.2; have := h.1; omega
  · rw [if_neg h]; simp
def numB (bs : List Int) : Nat := natL ((bs.drop 2).take 2)
def ieU (out : List IeD) (bs : List Int) : List IeD × Int :=
  if h0 : bs.length = 0 then (out, 0)
  else if out.length = 16 then ([], 6)
  else if bs.length < 4 then ([], 2)
  else if bs.getD 1 0 ≠ 128 then ([], 5)
  else if 200 < numB bs then ([], 6)
  else if bs.length < 4 + numB bs then ([], 2)
  else ieU (out ++ [(bs.getD 0 0, (bs.drop 4).take (numB bs))]) (bs.drop (4 + numB bs))
termination_by bs.length
decreasing_by rw [List.length_drop]; omega
def ieUL (bs : List Int) : List IeD := (ieU [] bs).1
def ieUE (bs : List Int) : Int := (ieU [] bs).2
theorem ieU_end {out : List IeD} {bs : List Int} (h : bs.length = 0) : ieU out bs = (out, 0) := by rw [ieU, dif_pos h]
theorem ieU_16 {out : List IeD} {bs : List Int} (h : 0 < bs.length) (h1 : out.length = 16) : ieU out bs = ([], 6) := by rw [ieU, dif_neg (by omega), if_pos h1]
theorem ieU_4 {out : List IeD} {bs : List Int} (h : 0 < bs.length) (h1 : ¬ out.length = 16) (h2 : bs.length < 4) : ieU out bs = ([], 2) := by rw [ieU, dif_neg (by omega), if_neg h1, if_pos h2]
theorem ieU_128 {out : List IeD} {bs : List Int} (h1 : ¬ out.length = 16) (h2 : ¬ bs.length < 4) (h3 : bs.getD 1 0 ≠ 128) : ieU out bs = ([], 5) := by rw [ieU, dif_neg (by omega), if_neg h1, if_neg h2, if_pos h3]
theorem ieU_200 {out : List IeD} {bs : List Int} (h1 : ¬ out.length = 16) (h2 : ¬ bs.length < 4) (h3 : bs.getD 1 0 = 128) (h4 : 200 < numB bs) : ieU out bs = ([], 6) := by rw [ieU, dif_neg (by omega), if_neg h1, if_neg h2, if_neg (fun h => h h3), if_pos h4]
theorem ieU_short {out : List IeD} {bs : List Int} (h1 : ¬ out.length = 16) (h2 : ¬ bs.length < 4) (h3 : bs.getD 1 0 = 128) (h4 : ¬ 200 < numB bs) (h5 : bs.length < 4 + numB bs) : ieU out bs = ([], 2) := by rw [ieU, dif_neg (by omega), if_neg h1, if_neg h2, if_neg (fun h => h h3), if_neg h4, if_pos h5]
theorem ieU_on {out : List IeD} {bs : List Int} (h1 : ¬ out.length = 16) (h2 : ¬ bs.length < 4) (h3 : bs.getD 1 0 = 128) (h4 : ¬ 200 < numB bs) (h5 : ¬ bs.length < 4 + numB bs) : ieU out bs = ieU (out ++ [(bs.getD 0 0, (bs.drop 4).take (numB bs))]) (bs.drop (4 + numB bs)) := by
  rw [ieU, dif_neg (by omega), if_neg h1, if_neg h2, if_neg (fun h => h h3), if_neg h4, if_neg h5]
theorem numB_pack (x : IeD) (r : List Int) (h : x.2.length ≤ 200) : numB (packB x ++ r) = x.2.length := by
  simp [numB, packB, natL]
/-- What is packed is unpacked. -/
theorem ieU_pack : ∀ (l : List IeD) (out : List IeD), out.length ≤ 16 → (∀ x ∈ l, x.2.length ≤ 200) → ieU out (packL l) = if out.length + l.length ≤ 16 ∨ l = [] then (out ++ l, 0) else ([], 6)
  | [], out, _, _ => by rw [packL_nil, ieU_end rfl, if_pos (.inr rfl), List.append_nil]
  | x :: l, out, ho, h => by
    have hx := h x (by simp)
    have hlen : (packB x ++ packL l).length = 4 + x.2.length + (packL l).length := by rw [List.length_append, packB_len]
    rw [packL_cons]
    by_cases h16 : out.length = 16
    · rw [ieU_16 (by omega) h16, if_neg (by simp; omega)]
    · have hn := numB_pack x (packL l) hx
      rw [ieU_on h16 (by omega) (by simp [packB]) (by omega) (by omega), hn]
      have e0 : (packB x ++ packL l).getD 0 0 = x.1 := by simp [packB]
      have e1 : ((packB x ++ packL l).drop 4).take x.2.length = x.2 := by simp [packB]
      have e2 : (packB x ++ packL l).drop (4 + x.2.length) = packL l := by
        rw [← List.drop_drop]; simp [packB]
      rw [e0, e1, e2, ieU_pack l _ (by simp; omega) (fun y hy => h y (by simp [hy]))]
      by_cases h2 : out.length + (x :: l).length ≤ 16
      · rw [if_pos (.inl (by simp at h2 ⊢; omega)), if_pos (.inl h2)]
        simp
      · by_cases hl : l = []
        · subst hl; simp at h2; omega
        · rw [if_neg (by simp at h2 ⊢; exact ⟨by omega, hl⟩), if_neg (by simp at h2 ⊢; omega)]
/-- What is unpacked is packed to what it was. -/
theorem ieP_un (bs : List Int) (out l : List IeD) (hb : Bytes bs) (hu : ieU out bs = (l, 0)) (ho : out.length ≤ 16) : l.length ≤ 16 ∧ ∃ l', l = out ++ l' ∧ packL l' = bs ∧ ∀ x ∈ l', x.2.length ≤ 200 := by
  by_cases h0 : bs.length = 0
  · rw [ieU_end h0] at hu
    cases hu
    have := List.eq_nil_of_length_eq_zero h0
    subst this
    exact ⟨ho, [], by simp, rfl, fun x hx => by simp at hx⟩
  by_cases h1 : out.length = 16
  · rw [ieU_16 (by omega) h1] at hu; cases hu
  by_cases h2 : bs.length < 4
  · rw [ieU_4 (by omega) h1 h2] at hu; cases hu
  by_cases h3 : bs.getD 1 0 = 128
  · by_cases h4 : 200 < numB bs
    · rw [ieU_200 h1 h2 h3 h4] at hu; cases hu
    by_cases h5 : bs.length < 4 + numB bs
    · rw [ieU_short h1 h2 h3 h4 h5] at hu; cases hu
    rw [ieU_on h1 h2 h3 h4 h5] at hu
    obtain ⟨g1, l', g2, g3, g4⟩ := ieP_un _ _ _ (fun x hx => hb x (List.mem_of_mem_drop hx)) hu (by simp; omega)
    refine ⟨g1, (bs.getD 0 0, (bs.drop 4).take (numB bs)) :: l', by rw [g2]; simp, ?_, ?_⟩
    · rw [packL_cons, g3]
      rcases bs with _ | ⟨a, _ | ⟨b, _ | ⟨c, _ | ⟨d, r⟩⟩⟩⟩ <;> try (simp at h2; done)
      have hc := hb c (by simp)
      have hd := hb d (by simp)
      have hn : numB (a :: b :: c :: d :: r) = c.toNat * 256 + d.toNat := by simp [numB, natL]
      have hb3 : b = 128 := by simpa using h3
      rw [hn] at h4 h5 ⊢
      simp only [List.length_cons] at h5
      have hlen : (r.take (c.toNat * 256 + d.toNat)).length = c.toNat * 256 + d.toNat := by rw [List.length_take]; omega
      have hdr : (a :: b :: c :: d :: r).drop (4 + (c.toNat * 256 + d.toNat)) = r.drop (c.toNat * 256 + d.toNat) := by rw [← List.drop_drop]; rfl
      rw [hdr]
      have e : packB ((a :: b :: c :: d :: r).getD 0 0, ((a :: b :: c :: d :: r).drop 4).take (c.toNat * 256 + d.toNat)) = a :: b :: c :: d :: r.take (c.toNat * 256 + d.toNat) := by
        unfold packB
        simp only [List.getD_cons_zero, List.drop_succ_cons, List.drop_zero]
        rw [hlen, hb3, show c = 0 by omega, show (((0 : Int).toNat * 256 + d.toNat : Nat) : Int) = d by simp; omega]
      rw [e]
      simp only [List.cons_append, List.take_append_drop]
    · intro x hx
      rcases List.mem_cons.1 hx with rfl | hx
      · simp only [List.length_take]; omega
      · exact g4 x hx
  · rw [ieU_128 h1 h2 h3] at hu; cases hu
termination_by bs.length
decreasing_by rw [List.length_drop]; omega
theorem ieU_err (bs : List Int) (out : List IeD) (h : (ieU out bs).2 ≠ 0) : (ieU out bs).1 = [] := by
  by_cases h0 : bs.length = 0
  · rw [ieU_end h0] at h; exact absurd rfl h
  by_cases h1 : out.length = 16
  · rw [ieU_16 (by omega) h1]
  by_cases h2 : bs.length < 4
  · rw [ieU_4 (by omega) h1 h2]
  by_cases h3 : bs.getD 1 0 = 128
  · by_cases h4 : 200 < numB bs
    · rw [ieU_200 h1 h2 h3 h4]
    by_cases h5 : bs.length < 4 + numB bs
    · rw [ieU_short h1 h2 h3 h4 h5]
    rw [ieU_on h1 h2 h3 h4 h5] at h ⊢
    exact ieU_err _ _ h
  · rw [ieU_128 h1 h2 h3]
termination_by bs.length
decreasing_by rw [List.length_drop]; omega
theorem ieU_count (bs : List Int) (out : List IeD) (ho : out.length ≤ 16) : (ieU out bs).1.length ≤ 16 := by
  by_cases h0 : bs.length = 0
  · rw [ieU_end h0]; exact ho
  by_cases h1 : out.length = 16
  · rw [ieU_16 (by omega) h1]; simp
  by_cases h2 : bs.length < 4
  · rw [ieU_4 (by omega) h1 h2]; simp
  by_cases h3 : bs.getD 1 0 = 128
  · by_cases h4 : 200 < numB bs
    · rw [ieU_200 h1 h2 h3 h4]; simp
    by_cases h5 : bs.length < 4 + numB bs
    · rw [ieU_short h1 h2 h3 h4 h5]; simp
    rw [ieU_on h1 h2 h3 h4 h5]
    exact ieU_count _ _ (by simp; omega)
  · rw [ieU_128 h1 h2 h3]; simp
termination_by bs.length
decreasing_by rw [List.length_drop]; omega
theorem ieUE_few (bs : List Int) (out : List IeD) : (ieU out bs).2 = 0 ∨ (ieU out bs).2 = 2 ∨ (ieU out bs).2 = 5 ∨ (ieU out bs).2 = 6 := by
  by_cases h0 : bs.length = 0
  · rw [ieU_end h0]; simp
  by_cases h1 : out.length = 16
  · rw [ieU_16 (by omega) h1]; simp
  by_cases h2 : bs.length < 4
  · rw [ieU_4 (by omega) h1 h2]; simp
  by_cases h3 : bs.getD 1 0 = 128
  · by_cases h4 : 200 < numB bs
    · rw [ieU_200 h1 h2 h3 h4]; simp
    by_cases h5 : bs.length < 4 + numB bs
    · rw [ieU_short h1 h2 h3 h4 h5]; simp
    rw [ieU_on h1 h2 h3 h4 h5]
    exact ieUE_few _ _
  · rw [ieU_128 h1 h2 h3]; simp
termination_by bs.length
decreasing_by rw [List.length_drop]; omega
theorem ieU_bytes (bs : List Int) (out : List IeD) (hb : Bytes bs) (ho : ∀ x ∈ out, (0 ≤ x.1 ∧ x.1 < 256) ∧ Bytes x.2 ∧ x.2.length ≤ 200) : ∀ x ∈ (ieU out bs).1, (0 ≤ x.1 ∧ x.1 < 256) ∧ Bytes x.2 ∧ x.2.length ≤ 200 := by
  by_cases h0 : bs.length = 0
  · rw [ieU_end h0]; exact ho
  by_cases h1 : out.length = 16
  · rw [ieU_16 (by omega) h1]; simp
  by_cases h2 : bs.length < 4
  · rw [ieU_4 (by omega) h1 h2]; simp
  by_cases h3 : bs.getD 1 0 = 128
  · by_cases h4 : 200 < numB bs
    · rw [ieU_200 h1 h2 h3 h4]; simp
    by_cases h5 : bs.length < 4 + numB bs
    · rw [ieU_short h1 h2 h3 h4 h5]; simp
    rw [ieU_on h1 h2 h3 h4 h5]
    refine ieU_bytes _ _ (hb.drop _) fun x hx => ?_
    rcases List.mem_append.1 hx with hx | hx
    · exact ho x hx
    · simp at hx; subst hx
      exact ⟨hb.get 0, (hb.drop _).take _, by simp only [List.length_take]; omega⟩
  · rw [ieU_128 h1 h2 h3]; simp
termination_by bs.length
decreasing_by rw [List.length_drop]; omega
end Go.Proofs.Ytejpcmjokamdcaa
end

section
/- Layer 15: what the walks over Pack and Unpack need. -/
set_option linter.unusedVariables false
set_option linter.unusedSimpArgs false
namespace Go.Proofs.Ytejpcmjokamdcaa
open Go.Vc
theorem vals_len (l : List IeV) : (vals l).length = l.length := by simp [vals]
theorem vals_get {l : List IeV} {k : Nat} {x : IeV} (h : l[k]? = some x) : (vals l)[k]? = some (x.id, x.bs) := by simp [vals, h, IeV.val]
theorem vals_app (l l' : List IeV) : vals (l ++ l') = vals l ++ vals l' := by simp [vals]
theorem vals_take (l : List IeV) (k : Nat) : vals (l.take k) = (vals l).take k := by simp [vals]
theorem vals_drop (l : List IeV) (k : Nat) : vals (l.drop k) = (vals l).drop k := by simp [vals]
theorem vals_nil : vals [] = [] := rfl
theorem vals_mem {l : List IeV} {y : IeD} (h : y ∈ vals l) : ∃ x ∈ l, y = (x.id, x.bs) := by
  obtain ⟨x, hx, rfl⟩ := List.mem_map.1 h
  exact ⟨x, hx, rfl⟩
def anyL (l : List IeV) : Bool := l.any fun y => decide (200 < y.n)
theorem anyL_no {l : List IeV} {n : Nat} (hn : l.length = n) (h : ∀ i y, i < n → l[i]? = some y → y.n ≤ 200) : anyL l = false := by
  unfold anyL
  rw [List.any_eq_false]
  intro x hx
  obtain ⟨i, hi, rfl⟩ := List.getElem_of_mem hx
  have := h i l[i] (by omega) (List.getElem?_eq_getElem hi)
  simp; omega
theorem anyL_yes {l : List IeV} {k : Nat} {y : IeV} (h : l[k]? = some y) (h2 : 200 < y.n) : anyL l = true := by
  unfold anyL
  rw [List.any_eq_true]
  exact ⟨y, List.mem_of_getElem? h, by simpa using h2⟩
theorem ok_of {l : List IeV} {n : Nat} (hn : l.length = n) (h1 : n ≤ 16) (h2 : anyL l = false) (hl : ∀ x ∈ l, x.bs.length = x.n) : okL (vals l) := by
  refine ⟨by rw [vals_len]; omega, fun y hy => ?_⟩
  obtain ⟨x, hx, rfl⟩ := vals_mem hy
  have := hl x hx
  unfold anyL at h2
  rw [List.any_eq_false] at h2
  have := h2 x hx
  simp at this
  show x.bs.length ≤ 200
  omega
theorem ok_not1 {l : List IeV} {n : Nat} (hn : l.length = n) (h1 : 16 < n) : ¬ okL (vals l) := fun h => by have := h.1; rw [vals_len] at this; omega
theorem ok_not3 {l : List IeV} {k : Nat} {y : IeV} (h : l[k]? = some y) (h2 : 200 < y.n) (hl : y.bs.length = y.n) : ¬ okL (vals l) := fun ho => by
  have := ho.2 _ (List.mem_of_getElem? (vals_get h))
  simp only at this
  omega
theorem ok_not2 {l : List IeV} (h2 : anyL l = true) (hl : ∀ x ∈ l, x.bs.length = x.n) : ¬ okL (vals l) := by
  unfold anyL at h2
  rw [List.any_eq_true] at h2
  obtain ⟨x, hx, h3⟩ := h2
  obtain ⟨i, hi, rfl⟩ := List.getElem_of_mem hx
  exact ok_not3 (List.getElem?_eq_getElem hi) (by simpa using h3) (hl _ hx)
theorem ok_all {l : List IeV} {n : Nat} (hn : l.length = n) (h1 : n ≤ 16) (h : ∀ i y, i < n → l[i]? = some y → y.n ≤ 200) (hl : ∀ x ∈ l, x.bs.length = x.n) : okL (vals l) := ok_of hn h1 (anyL_no hn h) hl
theorem ok_le {l : List IeD} (h : okL l) (k : Nat) : (packL (l.take k)).length ≤ 3264 := by
  have h1 := packL_le (l.take k) fun x hx => h.2 x (List.mem_of_mem_take hx)
  have := h.1
  rw [List.length_take] at h1
  omega
theorem pack_step {l : List IeV} {k n c : Nat} {A : Option Addr} {id : Int} {bs : List Int} (h : l[k]? = some ⟨id, A, n, c, bs⟩) (hb : bs.length = n) (h2 : n ≤ 200) : packL ((vals l).take (k + 1)) = packL ((vals l).take k) ++ ([id, 128] ++ (digL n 2 ++ bs)) := by
  rw [packL_succ (vals_get h), digL_2 (by omega)]
  simp [packB, hb]
theorem pack_step2 {l : List IeV} {k n c : Nat} {A : Option Addr} {id : Int} {bs : List Int} (h : l[k]? = some ⟨id, A, n, c, bs⟩) (hb : bs.length = n) (h2 : n ≤ 200) : packL ((vals l).take (k + 1)) = packL ((vals l).take k) ++ ([id, 128, 0, IntKind.wrap .u8 ((n : Nat) : Int)] ++ bs) := by
  rw [packL_succ (vals_get h), wrap_u8, Nat.mod_eq_of_lt (by omega)]
  simp [packB, hb]
theorem packT_yes {l : List IeD} (h : okL l) : packT l = packL l ∧ packE l = 0 := by simp [packT, packE, h]
theorem packT_no {l : List IeD} (h : ¬ okL l) : packT l = [] ∧ packE l = 6 := by simp [packT, packE, h]
/-- What Pack answers. -/
def PackR (w w1 : World) (eB : TypeId) (x : Value) (T : List Int) (E : Int) : Prop := ∃ A' c', x = .tuple #[.slice A' T.length c', .int .i64 E] ∧ Rw w1 w.heap.size eB A' T.length c' (iL .u8 T) ∧ Step No w w1
theorem PackR.no {w w1 : World} {eB : TypeId} {l : List IeD} (h : ¬ okL l) (hs : Step No w w1) : PackR w w1 eB (.tuple #[.slice none 0 0, .int .i64 6]) (packT l) (packE l) := by
  obtain ⟨h1, h2⟩ := packT_no h
  rw [h1, h2]
  exact ⟨none, 0, rfl, Rw.nil _ _ _, hs⟩
theorem PackR.yes {w w1 : World} {eB base n c : Nat} {A : Option Addr} {l : List IeD} {xs : List Int} (h : okL l) (hr : Rw w1 base eB A n c (iL .u8 xs)) (hx : xs = packL l) (hb : w.heap.size ≤ base) (hs : Step No w w1) : PackR w w1 eB (.tuple #[.slice A n c, .int .i64 0]) (packT l) (packE l) := by
  obtain ⟨h1, h2⟩ := packT_yes h
  have hn := hr.lenI
  subst hx
  subst hn
  rw [h1, h2]
  exact ⟨A, c, rfl, hr.low hb, hs⟩
/-- What Unpack answers. -/
def UnR (w w1 : World) (eI eB : TypeId) (x : Value) (bs : List Int) : Prop := ∃ A' c' l', x = .tuple #[.slice A' l'.length c', .int .i64 (ieUE bs)] ∧ vals l' = ieUL bs ∧ Ier w1 w.heap.size eI eB A' l'.length c' l' ∧ Step No w w1
theorem UnR.no {w w1 : World} {eI eB : TypeId} {bs : List Int} {E : Int} (h : ieU [] bs = ([], E)) (hs : Step No w w1) : UnR w w1 eI eB (.tuple #[.slice none 0 0, .int .i64 E]) bs := by
  refine ⟨none, 0, [], ?_, by rw [ieUL, h]; rfl, Ier.nil _ _ _ _, hs⟩
  rw [ieUE, h]; rfl
theorem UnR.yes {w w1 : World} {eI eB base n c : Nat} {A : Option Addr} {l : List IeV} {bs : List Int} (h : ieU [] bs = (vals l, 0)) (hr : Ier w1 base eI eB A n c l) (hb : w.heap.size ≤ base) (hs : Step No w w1) : UnR w w1 eI eB (.tuple #[.slice A n c, .int .i64 0]) bs := by
  have hn := hr.len
  subst hn
  refine ⟨A, c, l, ?_, by rw [ieUL, h], hr.low hb, hs⟩
  rw [ieUE, h]
/-- The same elements. -/
theorem vals_eq {l l' : List IeV} {n : Nat} (h1 : l.length = n) (h2 : l'.length = n) (h : ∀ i x y, i < n → l[i]? = some x → l'[i]? = some y → x.id = y.id ∧ x.bs = y.bs) : (vals l == vals l') = true := by
  rw [beq_iff_eq]
  apply List.ext_getElem (by simp [vals, h1, h2])
  intro i g1 g2
  simp only [vals_len] at g1 g2
  have := h i l[i] l'[i] (by omega) (List.getElem?_eq_getElem g1) (List.getElem?_eq_getElem g2)
  simp [vals, IeV.val, this]
theorem vals_ne {l l' : List IeV} {i : Nat} {x y : IeV} (h1 : l[i]? = some x) (h2 : l'[i]? = some y) (h : ¬ (x.id = y.id ∧ x.bs = y.bs)) : (vals l == vals l') = false := by
  rw [beq_eq_false_iff_ne]
  intro e
  have := vals_get h1
  rw [e, vals_get h2] at this
  simp at this
  exact h ⟨this.1.symm, this.2.symm⟩
theorem vals_nel {l l' : List IeV} {n m : Nat} (h1 : l.length = n) (h2 : l'.length = m) (h : n ≠ m) : (vals l == vals l') = false := by
  rw [beq_eq_false_iff_ne]
  intro e
  have := congrArg List.length e
  simp only [vals_len] at this
  omega
theorem un_ieb {l : List IeV} {bs : List Int} (h : vals l = ieUL bs) (hb : Bytes bs) : ∀ x ∈ l, IeB x := by
  intro x hx
  have := ieU_bytes bs [] hb (fun x hx => by simp at hx) x.val (by rw [show (ieU [] bs).1 = vals l from h.symm]; exact List.mem_map_of_mem hx)
  exact ⟨this.1, this.2.1⟩
theorem un_small {w : World} {lo hi : Nat} {A : Option Addr} {l : List IeV} {bs : List Int} (hI : Ies w lo hi A l) (h : vals l = ieUL bs) (hb : Bytes bs) : ∀ x ∈ l, x.n ≤ 200 := by
  intro x hx
  have := ieU_bytes bs [] hb (fun x hx => by simp at hx) x.val (by rw [show (ieU [] bs).1 = vals l from h.symm]; exact List.mem_map_of_mem hx)
  have h2 := (hI.all x hx).len
  have h3 : x.val.2 = x.bs := rfl
  rw [h3] at this
  omega
end Go.Proofs.Ytejpcmjokamdcaa
end

section
/- Layer 15: few, Find; slices of elements. -/
set_option linter.unusedVariables false
set_option linter.unusedSimpArgs false
namespace Go.Proofs.Ytejpcmjokamdcaa
open Go.Vc
def fewB (l : List IeV) : Bool := l.all (fun y => decide (y.n ≤ 300)) && decide (l.length ≤ 20)
theorem fewB_yes {l : List IeV} (h : fewB l = true) : (∀ x ∈ l, x.n ≤ 300) ∧ l.length ≤ 20 := by
  unfold fewB at h
  simp only [Bool.and_eq_true, List.all_eq_true, decide_eq_true_eq] at h
  exact h
theorem fewB_no {l : List IeV} {k : Nat} {y : IeV} (h : l[k]? = some y) (h2 : 300 < y.n) : fewB l = false := by
  rw [Bool.eq_false_iff]
  intro h3
  have := (fewB_yes h3).1 y (List.mem_of_getElem? h)
  omega
theorem fewB_is {l : List IeV} {n : Nat} (hn : l.length = n) (h : ∀ i y, i < n → l[i]? = some y → y.n ≤ 300) : fewB l = decide (((n : Nat) : Int) ≤ 20) := by
  have h1 : l.all (fun y => decide (y.n ≤ 300)) = true := by
    rw [List.all_eq_true]
    intro x hx
    obtain ⟨i, hi, rfl⟩ := List.getElem_of_mem hx
    simpa using h i _ (by omega) (List.getElem?_eq_getElem hi)
  unfold fewB
  rw [h1, Bool.true_and, hn, Bool.eq_iff_iff]
  simp only [decide_eq_true_eq]
  omega
def isId (id : Int) (y : IeV) : Bool := decide (y.id = id)
theorem find_no {l : List IeV} {n : Nat} {id : Int} (hn : l.length = n) (h : ∀ i y, i < n → l[i]? = some y → y.id ≠ id) : l.find? (isId id) = none := by
  rw [List.find?_eq_none]
  intro x hx
  obtain ⟨i, hi, rfl⟩ := List.getElem_of_mem hx
  simpa [isId] using h i _ (by omega) (List.getElem?_eq_getElem hi)
theorem find_yes {id : Int} {y : IeV} (hy : y.id = id) : ∀ {l : List IeV} {k : Nat}, l[k]? = some y → (∀ i z, i < k → l[i]? = some z → z.id ≠ id) → l.find? (isId id) = some y
  | [], k, h, _ => by simp at h
  | x :: l, 0, h, _ => by simp at h; subst h; simp [isId, hy]
  | x :: l, k + 1, h, hz => by
    have h0 := hz 0 x (by omega) rfl
    rw [List.find?_cons_of_neg (by simpa [isId] using h0)]
    exact find_yes hy (by simpa using h) fun i z hi hz' => hz (i + 1) z (by omega) (by simpa using hz')
theorem find_step {l : List IeV} {k : Nat} {id : Int} {x : IeV} (h : l[k]? = some x) : (l.take (k + 1)).find? (isId id) = ((l.take k).find? (isId id)).or (if x.id = id then some x else none) := by
  rw [List.take_add_one, h, List.find?_append]
  by_cases hx : x.id = id <;> simp [isId, hx]
theorem find_in {l : List IeV} {id : Int} {y : IeV} (h : l.find? (isId id) = some y) : y ∈ l ∧ y.id = id := ⟨List.mem_of_find?_eq_some h, by have := List.find?_some h; simpa [isId] using this⟩
/-- What Find answers. -/
def FindR (w w1 : World) (x : Value) (l : List IeV) (id : Int) : Prop := ((l.find? (isId id) = none ∧ x = .tuple #[.agg #[.int .u8 0, .slice none 0 0], .bool false]) ∨ ∃ y, l.find? (isId id) = some y ∧ x = .tuple #[.agg #[.int .u8 y.id, .slice y.A y.n y.c], .bool true]) ∧ Step No w w1
section
variable {F : Nat → Prop} {w w' : World} {lo hi L H M sz : Nat} {A : Option Addr} {l : List IeV} {xs : List Value} {P : Program}
theorem Sl2.mov (h : Sl2 w lo hi A xs) (hM : H ≤ M) : Sl2 w lo hi (movA A (decide (M = L)) (L * sz)) ((xs.drop (L * sz)).take ((H - L) * sz)) := by
  intro h0
  have h1 : 0 < xs.length := by simp at h0; omega
  obtain ⟨b, o, rfl, hl, hb, _⟩ := h h1
  obtain ⟨b', o', hA, hb', hc⟩ := h.sl.mov (L := L) (sz := sz) hM h0
  refine ⟨b', o', hA, ?_, hb', hc⟩
  have : b' = b := by
    unfold movA at hA
    by_cases e : M = L
    · simp [e] at hA; exact hA.1.symm
    · simp [e, add_none] at hA; exact hA.1.symm
  omega
theorem Ies.mov (h : Ies w lo hi A l) (hM : H ≤ M) : Ies w lo hi (movA A (decide (M = L)) (L * 2)) ((l.drop L).take (H - L)) := by
  refine ⟨?_, fun x hx => h.all x (List.mem_of_mem_drop (List.mem_of_mem_take hx))⟩
  have := Sl2.mov (L := L) (sz := 2) h.sl hM
  rwa [ieL_drop, ieL_take] at this
end
section
variable {r : Option Nat} {n : Nat} {ds : List Deferred} {P : Program} {ops : Array Oper} {Q : Exit → Act → World → Prop} {tbl : List (List Nat)} {m : Nat} {l : List (Nat × Value)} {R : World → World → Prop} {ch : List Nat} {w : World} {i : Nat}
theorem VL_sliceI {d len cap lo9 hi9 : Nat} {A : Option Addr} {xs : List IeV} {lo hi mx : Option Int} (h : sliceOpA P n ops l i = some (d, A, 2, len, cap, lo, hi, mx)) (hi' : Nat.blt i ops.size = true) (hno : mx ≠ none → hi ≠ none) (hA : Ies w lo9 hi9 A xs) (L H M : Nat)
    (hl : lo.getD 0 = L) (hh : hi.getD len = H) (hm : mx.getD cap = M) (h1 : L ≤ H) (h2 : H ≤ M) (h3 : M ≤ cap) (N : Nat) (hN : H - L = N) (C : Nat) (hC : M - L = C) (next : ∀ A', Ies w lo9 hi9 A' ((xs.drop L).take N) → VL r n ds P ops Q (i + 1) ((d, .slice A' N C) :: l) w) : VL r n ds P ops Q i l w := by
  subst hN; subst hC
  exact VL_sliceA h hi' hno L H M hl hh hm h1 h2 h3 _ rfl _ rfl (next _ (hA.mov h2))
end
theorem drop_take_one {α : Type} {l : List α} {k : Nat} {x : α} (h : l[k]? = some x) : (l.drop k).take 1 = [x] := by
  obtain ⟨hk, rfl⟩ := List.getElem?_eq_some_iff.1 h
  rw [List.drop_eq_getElem_cons hk]; rfl
end Go.Proofs.Ytejpcmjokamdcaa
end

section
/- Layer 15: there and back. -/
set_option linter.unusedVariables false
set_option linter.unusedSimpArgs false
namespace Go.Proofs.Ytejpcmjokamdcaa
open Go.Vc
theorem packE_0 {L : List IeD} (h : packE L = 0) : okL L := by
  by_cases ho : okL L
  · exact ho
  · rw [(packT_no ho).2] at h; cases h
theorem packE_n {L : List IeD} (h : packE L ≠ 0) : ¬ okL L := fun ho => h (packT_yes ho).2
theorem ie_there {L : List IeD} (h : packE L = 0) : ieU [] (packT L) = (L, 0) := by
  have ho := packE_0 h
  rw [(packT_yes ho).1, ieU_pack L [] (by simp) ho.2, if_pos (.inl (by simpa using ho.1)), List.nil_append]
theorem ie_thereE {L : List IeD} (h : packE L = 0) : ieUE (packT L) = 0 := congrArg Prod.snd (ie_there h)
theorem ie_thereL {L : List IeD} (h : packE L = 0) : ieUL (packT L) = L := congrArg Prod.fst (ie_there h)
theorem ie_back {bs : List Int} {L : List IeD} (hb : Bytes bs) (hv : L = ieUL bs) (he : ieUE bs = 0) : packE L = 0 ∧ packT L = bs := by
  have h1 : ieU [] bs = (L, 0) := Prod.ext hv.symm he
  obtain ⟨h2, l', h3, h4, h5⟩ := ieP_un bs [] L hb h1 (by simp)
  rw [List.nil_append] at h3
  subst h3
  have ho : okL L := ⟨h2, h5⟩
  exact ⟨(packT_yes ho).2, by rw [(packT_yes ho).1]; exact h4⟩
theorem ie_errL {bs : List Int} {l : List IeV} (hv : vals l = ieUL bs) (he : ieUE bs ≠ 0) : l.length = 0 := by
  rw [← vals_len, hv, show ieUL bs = [] from ieU_err bs [] he]; rfl
theorem packL_bytes {L : List IeD} (h : ∀ x ∈ L, ((0 ≤ x.1 ∧ x.1 < 256) ∧ Bytes x.2) ∧ x.2.length ≤ 200) : Bytes (packL L) := by
  intro y hy
  obtain ⟨x, hx, hy⟩ := List.mem_flatMap.1 hy
  have := h x hx
  simp only [packB, List.mem_cons] at hy
  rcases hy with rfl | rfl | rfl | rfl | hy
  · exact this.1.1
  · omega
  · omega
  · omega
  · exact this.1.2 y hy
theorem packT_bytes {l : List IeV} (hl : ∀ x ∈ l, IeB x) : Bytes (packT (vals l)) := by
  by_cases h : okL (vals l)
  · rw [(packT_yes h).1]
    refine packL_bytes fun y hy => ?_
    have h2 := h.2 y hy
    obtain ⟨x, hx, rfl⟩ := vals_mem hy
    exact ⟨hl x hx, h2⟩
  · rw [(packT_no h).1]; exact Bytes.nil
theorem packT_app {a b : List IeD} (ha : packE a = 0) (hb : packE b = 0) : packT a ++ packT b = packL (a ++ b) ∧ ∀ x ∈ a ++ b, x.2.length ≤ 200 := by
  have h1 := packE_0 ha
  have h2 := packE_0 hb
  refine ⟨by rw [(packT_yes h1).1, (packT_yes h2).1, packL_app], fun x hx => ?_⟩
  rcases List.mem_append.1 hx with hx | hx
  · exact h1.2 x hx
  · exact h2.2 x hx
theorem ie_both {a b : List IeD} (ha : packE a = 0) (hb : packE b = 0) : ieU [] (packT a ++ packT b) = if a.length + b.length ≤ 16 then (a ++ b, 0) else ([], 6) := by
  obtain ⟨h1, h2⟩ := packT_app ha hb
  rw [h1, ieU_pack _ [] (by simp) h2]
  by_cases h : a.length + b.length ≤ 16
  · rw [if_pos h, if_pos (.inl (by simpa using h)), List.nil_append]
  · rw [if_neg h, if_neg]
    rintro (h3 | h3)
    · simp at h3; omega
    · rw [List.append_eq_nil_iff] at h3; rw [h3.1, h3.2] at h; simp at h
end Go.Proofs.Ytejpcmjokamdcaa
end

section
/- Layer 16 in plain Lean: messages as bytes, and bytes as messages. -/
set_option linter.unusedVariables false
set_option linter.unusedSimpArgs false
namespace Go.Proofs.Ytejpcmjokamdcaa
open Go.Vc
def knownB (k : Int) : Bool := decide (k = 2 ∨ k = 5 ∨ k = 7 ∨ k = 77 ∨ k = 90)
def rightM (r k : Int) (L : List IeD) : Bool := decide (1 ≤ r ∧ r ≤ 8388607) && knownB k && decide (packE L = 0)
theorem rightM_T {r k : Int} {L : List IeD} (h : rightM r k L = true) : (1 ≤ r ∧ r ≤ 8388607) ∧ knownB k = true ∧ packE L = 0 := by
  simp only [rightM, Bool.and_eq_true, decide_eq_true_eq] at h
  exact ⟨h.1.1, h.1.2, h.2⟩
theorem rightM_of {r k : Int} {L : List IeD} (h : 1 ≤ r ∧ r ≤ 8388607) (h2 : knownB k = true) (h3 : packE L = 0) : rightM r k L = true := by simp [rightM, h, h2, h3]
theorem rightM_F1 {r k : Int} {L : List IeD} (h : ¬ (1 ≤ r ∧ r ≤ 8388607)) : rightM r k L = false := by simp [rightM, h]
theorem rightM_F2 {r k : Int} {L : List IeD} (h : knownB k = false) : rightM r k L = false := by simp [rightM, h]
theorem rightM_F3 {r k : Int} {L : List IeD} (h : ¬ packE L = 0) : rightM r k L = false := by simp [rightM, h]
def msgN (r : Nat) (back : Bool) : Nat := if back = true then r + 8388608 else r
/-- A message's head. -/
def hdL (n : Nat) (k : Int) (len : Nat) : List Int := [9, 3, ((n / 65536 % 256 : Nat) : Int), ((n / 256 % 256 : Nat) : Int), ((n % 256 : Nat) : Int), IntKind.wrap .u8 k, 128, ((len / 256 % 256 : Nat) : Int), ((len % 256 : Nat) : Int)]
theorem hdL_len (n : Nat) (k : Int) (len : Nat) : (hdL n k len).length = 9 := rfl
theorem byte_is (x : Nat) : IntKind.wrap .u8 ((x : Nat) : Int) = ((x % 256 : Nat) : Int) := wrap_u8 x
theorem hd_sh (n : Nat) (k : Int) (len : Nat) : [9, 3, IntKind.wrap .u8 (((n : Nat) : Int).fdiv (2 ^ 16)), IntKind.wrap .u8 (((n : Nat) : Int).fdiv (2 ^ 8)), IntKind.wrap .u8 ((n : Nat) : Int), IntKind.wrap .u8 k, 128, IntKind.wrap .u8 (((len : Nat) : Int).fdiv (2 ^ 8)), IntKind.wrap .u8 ((len : Nat) : Int)] = hdL n k len := by
  simp only [fdiv_nat, byte_is]; first | done | rfl
theorem hd_div (n : Nat) (k : Int) (len : Nat) : [9, 3, IntKind.wrap .u8 ((n / 65536 : Nat) : Int), IntKind.wrap .u8 (((n / 256) % 256 : Nat) : Int), IntKind.wrap .u8 ((n % 256 : Nat) : Int), IntKind.wrap .u8 k, 128, IntKind.wrap .u8 ((len / 256 : Nat) : Int), IntKind.wrap .u8 ((len % 256 : Nat) : Int)] = hdL n k len := by
  simp only [byte_is, Nat.mod_mod]; first | done | rfl
def msgL (r : Nat) (back : Bool) (k : Int) (L : List IeD) : List Int := hdL (msgN r back) k (packT L).length ++ packT L
def msgE (r : Int) (back : Bool) (k : Int) (L : List IeD) : Int := if rightM r k L = true then if 1000 < 9 + (packT L).length then 6 else 0 else 1
def msgT (r : Int) (back : Bool) (k : Int) (L : List IeD) : List Int := if msgE r back k L = 0 then msgL r.toNat back k L else []
theorem msgL_len (r : Nat) (back : Bool) (k : Int) (L : List IeD) : (msgL r back k L).length = 9 + (packT L).length := by simp [msgL, hdL_len]
theorem msg_no {r k : Int} {back : Bool} {L : List IeD} (h : rightM r k L = false) : msgE r back k L = 1 ∧ msgT r back k L = [] := by
  have : msgE r back k L = 1 := by rw [msgE, if_neg (by rw [h]; simp)]
  exact ⟨this, by rw [msgT, if_neg (by rw [this]; decide)]⟩
theorem msg_long {r k : Int} {back : Bool} {L : List IeD} (h : rightM r k L = true) (h2 : 1000 < 9 + (packT L).length) : msgE r back k L = 6 ∧ msgT r back k L = [] := by
  have : msgE r back k L = 6 := by rw [msgE, if_pos h, if_pos h2]
  exact ⟨this, by rw [msgT, if_neg (by rw [this]; decide)]⟩
theorem msg_yes {r k : Int} {back : Bool} {L : List IeD} (h : rightM r k L = true) (h2 : ¬ 1000 < 9 + (packT L).length) : msgE r back k L = 0 ∧ msgT r back k L = msgL r.toNat back k L := by
  have : msgE r back k L = 0 := by rw [msgE, if_pos h, if_neg h2]
  exact ⟨this, by rw [msgT, if_pos this]⟩
theorem msg_of {r k : Int} {back : Bool} {L : List IeD} (h : msgE r back k L = 0) : rightM r k L = true ∧ 9 + (packT L).length ≤ 1000 ∧ msgT r back k L = msgL r.toNat back k L := by
  by_cases h1 : rightM r k L = true
  · by_cases h2 : 1000 < 9 + (packT L).length
    · rw [(msg_long h1 h2).1] at h; cases h
    · exact ⟨h1, by omega, (msg_yes h1 h2).2⟩
  · rw [(msg_no (by simpa using h1)).1] at h; cases h
theorem msgE_few (r k : Int) (back : Bool) (L : List IeD) : msgE r back k L = 0 ∨ msgE r back k L = 1 ∨ msgE r back k L = 6 := by
  unfold msgE
  split
  · split <;> simp
  · simp
theorem msgT_le (r : Int) (back : Bool) (k : Int) (L : List IeD) : (msgT r back k L).length ≤ 1000 := by
  unfold msgT
  split
  · rename_i h; rw [msgL_len]; exact (msg_of h).2.1
  · simp
/-! ### Bytes as a message -/
def muN (bs : List Int) : Nat := (bs.getD 2 0 * 65536 + bs.getD 3 0 * 256 + bs.getD 4 0).toNat
def muS (bs : List Int) : Nat := (bs.getD 7 0 * 256 + bs.getD 8 0).toNat
def muForm (bs : List Int) : Prop := bs.getD 0 0 = 9 ∧ bs.getD 1 0 = 3 ∧ bs.getD 6 0 = 128 ∧ muN bs % 8388608 ≠ 0
instance (bs : List Int) : Decidable (muForm bs) := by unfold muForm; infer_instance
def muE (bs : List Int) : Int := if 1000 < bs.length then 6 else if bs.length < 9 then 2 else if ¬ muForm bs then 5 else if ¬ knownB (bs.getD 5 0) = true then 12 else if bs.length - 9 < muS bs then 2 else if muS bs < bs.length - 9 then 3 else ieUE (bs.drop 9)
def muR (bs : List Int) : Int := if muE bs = 0 then ((muN bs % 8388608 : Nat) : Int) else 0
def muB (bs : List Int) : Bool := if muE bs = 0 then decide (((muN bs : Nat) : Int) > 8388607) else false
def muK (bs : List Int) : Int := if muE bs = 0 then bs.getD 5 0 else 0
def muL (bs : List Int) : List IeD := if muE bs = 0 then ieUL (bs.drop 9) else []
section
variable {bs : List Int}
theorem mu_6 (h : 1000 < bs.length) : muE bs = 6 := if_pos h
theorem mu_2 (h : ¬ 1000 < bs.length) (h1 : bs.length < 9) : muE bs = 2 := by rw [muE, if_neg h, if_pos h1]
theorem mu_5 (h : ¬ 1000 < bs.length) (h1 : ¬ bs.length < 9) (h2 : ¬ muForm bs) : muE bs = 5 := by rw [muE, if_neg h, if_neg h1, if_pos h2]
theorem mu_12 (h : ¬ 1000 < bs.length) (h1 : ¬ bs.length < 9) (h2 : muForm bs) (h3 : knownB (bs.getD 5 0) = false) : muE bs = 12 := by rw [muE, if_neg h, if_neg h1, if_neg (fun q => q h2), if_pos (by rw [h3]; simp)]
theorem mu_2b (h : ¬ 1000 < bs.length) (h1 : ¬ bs.length < 9) (h2 : muForm bs) (h3 : knownB (bs.getD 5 0) = true) (h4 : bs.length - 9 < muS bs) : muE bs = 2 := by rw [muE, if_neg h, if_neg h1, if_neg (fun q => q h2), if_neg (fun q => q h3), if_pos h4]
theorem mu_3 (h : ¬ 1000 < bs.length) (h1 : ¬ bs.length < 9) (h2 : muForm bs) (h3 : knownB (bs.getD 5 0) = true) (h5 : muS bs < bs.length - 9) : muE bs = 3 := by rw [muE, if_neg h, if_neg h1, if_neg (fun q => q h2), if_neg (fun q => q h3), if_neg (by omega), if_pos h5]
theorem mu_i (h : ¬ 1000 < bs.length) (h1 : ¬ bs.length < 9) (h2 : muForm bs) (h3 : knownB (bs.getD 5 0) = true) (h4 : muS bs = bs.length - 9) : muE bs = ieUE (bs.drop 9) := by rw [muE, if_neg h, if_neg h1, if_neg (fun q => q h2), if_neg (fun q => q h3), if_neg (by omega), if_neg (by omega)]
theorem mu_of (h : muE bs = 0) : bs.length ≤ 1000 ∧ 9 ≤ bs.length ∧ muForm bs ∧ knownB (bs.getD 5 0) = true ∧ muS bs = bs.length - 9 ∧ ieUE (bs.drop 9) = 0 := by
  by_cases h1 : 1000 < bs.length
  · rw [mu_6 h1] at h; cases h
  by_cases h2 : bs.length < 9
  · rw [mu_2 h1 h2] at h; cases h
  by_cases h3 : muForm bs
  · by_cases h4 : knownB (bs.getD 5 0) = true
    · by_cases h5 : bs.length - 9 < muS bs
      · rw [mu_2b h1 h2 h3 h4 h5] at h; cases h
      by_cases h6 : muS bs < bs.length - 9
      · rw [mu_3 h1 h2 h3 h4 h6] at h; cases h
      rw [mu_i h1 h2 h3 h4 (by omega)] at h
      exact ⟨by omega, by omega, h3, h4, by omega, h⟩
    · rw [mu_12 h1 h2 h3 (by simpa using h4)] at h; cases h
  · rw [mu_5 h1 h2 h3] at h; cases h
theorem mu_n (h : muE bs ≠ 0) : muR bs = 0 ∧ muB bs = false ∧ muK bs = 0 ∧ muL bs = [] := ⟨if_neg h, if_neg h, if_neg h, if_neg h⟩
theorem mu_y (h : muE bs = 0) : muR bs = ((muN bs % 8388608 : Nat) : Int) ∧ muB bs = decide (((muN bs : Nat) : Int) > 8388607) ∧ muK bs = bs.getD 5 0 ∧ muL bs = ieUL (bs.drop 9) := ⟨if_pos h, if_pos h, if_pos h, if_pos h⟩
theorem muN_lt (hb : Bytes bs) : muN bs < 16777216 := by
  have h2 := hb.get 2; have h3 := hb.get 3; have h4 := hb.get 4
  unfold muN; omega
theorem muS_lt (hb : Bytes bs) : muS bs < 65536 := by
  have h2 := hb.get 7; have h3 := hb.get 8
  unfold muS; omega
theorem and_23 (n : Nat) (h : n < 2 ^ 62) : bAnd .i64 ((n : Nat) : Int) 8388607 = ((n % 8388608 : Nat) : Int) := by
  unfold bAnd
  rw [show (8388607 : Int) = ((8388607 : Nat) : Int) from rfl, BitVec.ofInt_natCast, BitVec.ofInt_natCast, BitVec.toNat_and, BitVec.toNat_ofNat, BitVec.toNat_ofNat]
  show IntKind.wrap .i64 (((n % 2 ^ 64 &&& 8388607 % 2 ^ 64 : Nat)) : Int) = _
  rw [Nat.mod_eq_of_lt (show n < 2 ^ 64 by omega), show 8388607 % 2 ^ 64 = 2 ^ 23 - 1 from rfl, Nat.and_two_pow_sub_one_eq_mod, wrap_i64 _ (by omega) (by omega)]
theorem mu_or (hb : Bytes bs) : bOr .i64 (bOr .i64 (IntKind.wrap .i64 (IntKind.wrap .i64 (bs.getD 2 0) * 2 ^ 16)) (IntKind.wrap .i64 (IntKind.wrap .i64 (bs.getD 3 0) * 2 ^ 8))) (IntKind.wrap .i64 (bs.getD 4 0)) = ((muN bs : Nat) : Int) := by
  obtain ⟨a, ha, ha2⟩ := bytes_getD hb 2
  obtain ⟨b, hb1, hb2⟩ := bytes_getD hb 3
  obtain ⟨c, hc, hc2⟩ := bytes_getD hb 4
  unfold muN
  rw [ha, hb1, hc, wrap_i64 ((a : Nat) : Int) (by omega) (by omega), wrap_i64 ((b : Nat) : Int) (by omega) (by omega), wrap_i64 ((c : Nat) : Int) (by omega) (by omega), show ((a : Nat) : Int) * 2 ^ 16 = ((a * 256 * 256 : Nat) : Int) by omega, show ((b : Nat) : Int) * 2 ^ 8 = ((b * 256 : Nat) : Int) by omega, wrap_i64 _ (by omega) (by omega), wrap_i64 _ (by omega) (by omega), bOr_i64 _ _ (by omega) (by omega)]
  have e1 : a * 256 * 256 ||| b * 256 = (a * 256 + b) * 256 := by
    rw [show a * 256 * 256 = 2 ^ 16 * a by omega, ← Nat.two_pow_add_eq_or_of_lt (show b * 256 < 2 ^ 16 by omega)]; omega
  rw [e1, bOr_i64 _ _ (by omega) (by omega), or_byte _ _ hc2]
  omega
theorem ms_or (hb : Bytes bs) : bOr .i64 (IntKind.wrap .i64 (IntKind.wrap .i64 (bs.getD 7 0) * 2 ^ 8)) (IntKind.wrap .i64 (bs.getD 8 0)) = ((muS bs : Nat) : Int) := by
  obtain ⟨b, hb1, hb2⟩ := bytes_getD hb 7
  obtain ⟨c, hc, hc2⟩ := bytes_getD hb 8
  unfold muS
  rw [hb1, hc, wrap_i64 ((b : Nat) : Int) (by omega) (by omega), wrap_i64 ((c : Nat) : Int) (by omega) (by omega), show ((b : Nat) : Int) * 2 ^ 8 = ((b * 256 : Nat) : Int) by omega, wrap_i64 _ (by omega) (by omega), bOr_i64 _ _ (by omega) (by omega), or_byte _ _ hc2]
  omega
theorem mk_is (hb : Bytes bs) : IntKind.wrap .i64 (bs.getD 5 0) = bs.getD 5 0 := by
  have := hb.get 5
  exact wrap_i64 _ (by omega) (by omega)
end
/-! ### There and back -/
theorem msg_bytes {r : Nat} {back : Bool} {k : Int} {L : List IeD} (h : Bytes (packT L)) : Bytes (msgL r back k L) := by
  refine Bytes.app ?_ h
  intro x hx
  simp only [hdL, List.mem_cons, List.mem_nil_iff, or_false] at hx
  have hw := byte_wrap k
  rcases hx with rfl | rfl | rfl | rfl | rfl | rfl | rfl | rfl | rfl <;> omega
theorem known_small {k : Int} (h : knownB k = true) : IntKind.wrap .u8 k = k := by
  simp only [knownB, decide_eq_true_eq] at h
  rcases h with rfl | rfl | rfl | rfl | rfl <;> rfl
/-- What is packed is unpacked. -/
theorem msg_there {r k : Int} {back : Bool} {L : List IeD} (h : msgE r back k L = 0) : muE (msgT r back k L) = 0 ∧ muR (msgT r back k L) = r ∧ muB (msgT r back k L) = back ∧ muK (msgT r back k L) = k ∧ muL (msgT r back k L) = L := by
  obtain ⟨h1, h2, h3⟩ := msg_of h
  obtain ⟨g1, g2, g3⟩ := rightM_T h1
  obtain ⟨m, rfl⟩ : ∃ m : Nat, r = m := ⟨r.toNat, by omega⟩
  rw [h3, Int.toNat_natCast]
  obtain ⟨P, hP⟩ : ∃ P, P = packT L := ⟨_, rfl⟩
  obtain ⟨bs, hbs⟩ : ∃ bs, bs = msgL m back k L := ⟨_, rfl⟩
  have hlen : bs.length = 9 + P.length := by rw [hbs, msgL_len, hP]
  have e : bs = hdL (msgN m back) k P.length ++ P := by rw [hbs, hP]; rfl
  have n2 : msgN m back = if back = true then m + 8388608 else m := rfl
  have hN : muN bs = msgN m back := by
    unfold muN
    rw [e]
    simp only [hdL, List.cons_append, List.getD_cons_succ, List.getD_cons_zero]
    have : msgN m back < 16777216 := by rw [n2]; split <;> omega
    omega
  have hS : muS bs = P.length := by
    unfold muS
    rw [e]
    simp only [hdL, List.cons_append, List.getD_cons_succ, List.getD_cons_zero]
    rw [← hP] at h2
    omega
  have hK : bs.getD 5 0 = k := by
    rw [e]
    simp only [hdL, List.cons_append, List.getD_cons_succ, List.getD_cons_zero]
    exact known_small g2
  have hD : bs.drop 9 = P := by rw [e]; rfl
  have hF : muForm bs := by
    refine ⟨by rw [e]; rfl, by rw [e]; rfl, by rw [e]; rfl, ?_⟩
    rw [hN, n2]; split <;> omega
  rw [← hP] at h2
  have hE : muE bs = 0 := by
    rw [mu_i (by omega) (by omega) hF (by rw [hK]; exact g2) (by omega), hD, hP]
    exact ie_thereE g3
  rw [← hbs]
  obtain ⟨y1, y2, y3, y4⟩ := mu_y hE
  refine ⟨hE, ?_, ?_, by rw [y3, hK], by rw [y4, hD, hP]; exact ie_thereL g3⟩
  · rw [y1, hN, n2]; split <;> omega
  · rw [y2, hN, n2, Bool.eq_iff_iff, decide_eq_true_eq]
    cases back <;> simp <;> omega
/-- What is unpacked is packed to what it was. -/
theorem msg_back {bs : List Int} (hb : Bytes bs) (h : muE bs = 0) : msgE (muR bs) (muB bs) (muK bs) (muL bs) = 0 ∧ msgT (muR bs) (muB bs) (muK bs) (muL bs) = bs := by
  obtain ⟨h1, h2, ⟨f0, f1, f2, f3⟩, h4, h5, h6⟩ := mu_of h
  obtain ⟨y1, y2, y3, y4⟩ := mu_y h
  have hlt := muN_lt hb
  obtain ⟨k1, k2⟩ := ie_back (hb.drop 9) rfl h6
  have hR : rightM (muR bs) (muK bs) (muL bs) = true := rightM_of (by rw [y1]; omega) (by rw [y3]; exact h4) (by rw [y4]; exact k1)
  have hl : (packT (muL bs)).length = bs.length - 9 := by rw [y4, k2, List.length_drop]
  obtain ⟨m1, m2⟩ := msg_yes (back := muB bs) hR (by omega)
  refine ⟨m1, ?_⟩
  rw [m2, msgL, hl, y4, k2, y1, y2, y3]
  have hn : msgN ((muN bs % 8388608 : Nat) : Int).toNat (decide (((muN bs : Nat) : Int) > 8388607)) = muN bs := by
    unfold msgN
    rw [Int.toNat_natCast]
    by_cases hc : ((muN bs : Nat) : Int) > 8388607
    · rw [if_pos (by simpa using hc)]; omega
    · rw [if_neg (by simpa using hc)]; omega
  rw [hn]
  rcases bs with _ | ⟨b0, _ | ⟨b1, _ | ⟨b2, _ | ⟨b3, _ | ⟨b4, _ | ⟨b5, _ | ⟨b6, _ | ⟨b7, _ | ⟨b8, r⟩⟩⟩⟩⟩⟩⟩⟩⟩ <;> try (simp at h2; done)
  have q2 := hb b2 (by simp); have q3 := hb b3 (by simp); have q4 := hb b4 (by simp); have q7 := hb b7 (by simp); have q8 := hb b8 (by simp)
  have hN : muN (b0 :: b1 :: b2 :: b3 :: b4 :: b5 :: b6 :: b7 :: b8 :: r) = (b2 * 65536 + b3 * 256 + b4).toNat := rfl
  have hS : muS (b0 :: b1 :: b2 :: b3 :: b4 :: b5 :: b6 :: b7 :: b8 :: r) = (b7 * 256 + b8).toNat := rfl
  have e0 : b0 = 9 := f0
  have e1 : b1 = 3 := f1
  have e6 : b6 = 128 := f2
  have hk : IntKind.wrap .u8 b5 = b5 := known_small h4
  have hlr : (b0 :: b1 :: b2 :: b3 :: b4 :: b5 :: b6 :: b7 :: b8 :: r).length - 9 = muS (b0 :: b1 :: b2 :: b3 :: b4 :: b5 :: b6 :: b7 :: b8 :: r) := h5.symm
  rw [hlr, hN, hS]
  simp only [hdL, List.cons_append, List.nil_append, List.drop_succ_cons, List.drop_zero]
  subst e0; subst e1; subst e6
  rw [show List.getD ((9 : Int) :: 3 :: b2 :: b3 :: b4 :: b5 :: 128 :: b7 :: b8 :: r) 5 0 = b5 from rfl, hk]
  congr 1; congr 1
  congr 1
  · omega
  congr 1
  · omega
  congr 1
  · omega
  congr 1; congr 1; congr 1
  · omega
  congr 1
  · omega
end Go.Proofs.Ytejpcmjokamdcaa
end

section
/- Layer 16: what Pack, Unpack and Same answer. -/
set_option linter.unusedVariables false
set_option linter.unusedSimpArgs false
namespace Go.Proofs.Ytejpcmjokamdcaa
open Go.Vc
theorem rightM_E {r k : Int} {L : List IeD} (h : 1 ≤ r ∧ r ≤ 8388607) (h2 : knownB k = true) : (packE L == 0) = rightM r k L := by
  simp [rightM, h, h2]
  rw [Bool.eq_iff_iff]; simp
theorem MsgR.no {w w1 : World} {eB : TypeId} {T : List Int} {E E' : Int} (h : E' = E ∧ T = []) (hs : Step No w w1) : PackR w w1 eB (.tuple #[.slice none 0 0, .int .i64 E]) T E' := by
  obtain ⟨rfl, rfl⟩ := h
  exact ⟨none, 0, rfl, Rw.nil _ _ _, hs⟩
theorem MsgR.yes {w w1 : World} {eB base n c : Nat} {A : Option Addr} {T xs : List Int} {E : Int} (hE : E = 0) (hr : Rw w1 base eB A n c (iL .u8 xs)) (hx : xs = T) (hb : w.heap.size ≤ base) (hs : Step No w w1) : PackR w w1 eB (.tuple #[.slice A n c, .int .i64 0]) T E := by
  have hn := hr.lenI
  subst hx; subst hn; subst hE
  exact ⟨A, c, rfl, hr.low hb, hs⟩
theorem msg_row {r : Nat} {back : Bool} {k : Int} {L : List IeD} {n : Nat} (h : rightM ((r : Nat) : Int) k L = true) (h2 : ¬ 1000 < 9 + (packT L).length) (hn : n = msgN r back) : hdL n k (packT L).length ++ packT L = msgT ((r : Nat) : Int) back k L := by
  rw [(msg_yes h h2).2, hn]; rfl
theorem msgN_T {r N : Nat} {back : Bool} (h : back = true) (hN : ((N : Nat) : Int) = ((r : Nat) : Int) + 8388608) : N = msgN r back := by
  subst h
  have : msgN r true = r + 8388608 := rfl
  omega
theorem msgN_F {r : Nat} {back : Bool} (h : back = false) : r = msgN r back := by subst h; rfl
theorem msgN_ex (r : Nat) : ∃ N : Nat, ((N : Nat) : Int) = ((r : Nat) : Int) + 8388608 := ⟨r + 8388608, by omega⟩
/-- What Unpack answers. -/
def MuR (w w1 : World) (eI eB : TypeId) (x : Value) (bs : List Int) : Prop := ∃ A' c' l', x = .tuple #[.agg #[.int .i64 (muR bs), .bool (muB bs), .int .i64 (muK bs), .slice A' l'.length c'], .int .i64 (muE bs)] ∧ vals l' = muL bs ∧ Ier w1 w.heap.size eI eB A' l'.length c' l' ∧ Step No w w1
theorem MuR.no {w w1 : World} {eI eB : TypeId} {bs : List Int} {E : Int} (h : muE bs = E) (hne : E ≠ 0) (hs : Step No w w1) : MuR w w1 eI eB (.tuple #[.agg #[.int .i64 0, .bool false, .int .i64 0, .slice none 0 0], .int .i64 E]) bs := by
  subst h
  obtain ⟨h1, h2, h3, h4⟩ := mu_n hne
  exact ⟨none, 0, [], by rw [h1, h2, h3]; rfl, by rw [h4]; rfl, Ier.nil _ _ _ _, hs⟩
theorem MuR.yes {w w1 : World} {eI eB base c : Nat} {A : Option Addr} {l : List IeV} {bs : List Int} (h : muE bs = 0) (hv : vals l = ieUL (bs.drop 9)) (hr : Ier w1 base eI eB A l.length c l) (hb : w.heap.size ≤ base) (hs : Step No w w1) : MuR w w1 eI eB (.tuple #[.agg #[.int .i64 ((muN bs % 8388608 : Nat) : Int), .bool (decide (((muN bs : Nat) : Int) > 8388607)), .int .i64 (bs.getD 5 0), .slice A l.length c], .int .i64 0]) bs := by
  obtain ⟨h1, h2, h3, h4⟩ := mu_y h
  exact ⟨A, c, l, by rw [h1, h2, h3, h], by rw [h4]; exact hv, hr.low hb, hs⟩
theorem mu_ref {bs : List Int} (hb : Bytes bs) : IntKind.wrap .i64 (IntKind.wrap .i64 (IntKind.wrap .i64 ((IntKind.wrap .i64 (bs.getD 2 0)).tmod 128 * 65536) + IntKind.wrap .i64 (IntKind.wrap .i64 (bs.getD 3 0) * 256)) + IntKind.wrap .i64 (bs.getD 4 0)) = ((muN bs % 8388608 : Nat) : Int) := by
  obtain ⟨a, ha, ha2⟩ := bytes_getD hb 2
  obtain ⟨b, hb1, hb2⟩ := bytes_getD hb 3
  obtain ⟨c, hc, hc2⟩ := bytes_getD hb 4
  unfold muN
  rw [ha, hb1, hc, wrap_i64 ((a : Nat) : Int) (by omega) (by omega), wrap_i64 ((b : Nat) : Int) (by omega) (by omega), wrap_i64 ((c : Nat) : Int) (by omega) (by omega), show ((a : Nat) : Int).tmod 128 = ((a % 128 : Nat) : Int) from tmod_nat a 128, wrap_i64 (((a % 128 : Nat) : Int) * 65536) (by omega) (by omega), wrap_i64 (((b : Nat) : Int) * 256) (by omega) (by omega), wrap_i64 (((a % 128 : Nat) : Int) * 65536 + ((b : Nat) : Int) * 256) (by omega) (by omega), wrap_i64 _ (by omega) (by omega)]
  omega
theorem mu_refB {bs : List Int} (hb : Bytes bs) : decide (bs.getD 2 0 > 127) = decide (((muN bs : Nat) : Int) > 8388607) := by
  have h2 := hb.get 2; have h3 := hb.get 3; have h4 := hb.get 4
  unfold muN
  rw [Bool.eq_iff_iff, decide_eq_true_eq, decide_eq_true_eq]
  omega
theorem ms_ref {bs : List Int} (hb : Bytes bs) : IntKind.wrap .i64 (IntKind.wrap .i64 (IntKind.wrap .i64 (bs.getD 7 0) * 256) + IntKind.wrap .i64 (bs.getD 8 0)) = ((muS bs : Nat) : Int) := by
  have h2 := hb.get 7; have h3 := hb.get 8
  unfold muS
  rw [wrap_i64 (bs.getD 7 0) (by omega) (by omega), wrap_i64 (bs.getD 8 0) (by omega) (by omega), wrap_i64 (bs.getD 7 0 * 256) (by omega) (by omega), wrap_i64 _ (by omega) (by omega)]
  omega
def sameM (r : Int) (b : Bool) (k : Int) (L : List IeD) (r' : Int) (b' : Bool) (k' : Int) (L' : List IeD) : Bool := (r == r') && (b == b') && (k == k') && (L == L')
theorem sameM_is {r k : Int} {b : Bool} {L : List IeD} {r' k' : Int} {b' : Bool} {L' : List IeD} (h1 : r = r') (h2 : b = b') (h3 : k = k') (h4 : L = L') : sameM r b k L r' b' k' L' = true := by simp [sameM, h1, h2, h3, h4]
end Go.Proofs.Ytejpcmjokamdcaa
end

section
/- Layer 15: put, get, Clone, Same. -/
set_option linter.unusedVariables false
set_option linter.unusedSimpArgs false
namespace Go.Proofs.Ytejpcmjokamdcaa
open Go.Vc Go.RowKit

set_option maxRecDepth 100000 in
set_option maxHeartbeats 4000000 in
theorem put_any (A : Option Addr) (n c : Nat) (w : World) (base : Nat) (xs : List Int) (v many : Nat) (hA : Rw w base 5 A n c (iL .u8 xs)) (hm : 1 ≤ many ∧ many ≤ 8) (hlen : n ≤ 100000) (hbase : base ≤ w.heap.size) :
  CV Try.prog 52 #[.slice A n c, .int .i64 ((v : Nat) : Int), .int .i64 ((many : Nat) : Int)] w (fun x w1 => ∃ A' c', x = .slice A' (n + many) c' ∧ Rw w1 base 5 A' (n + many) c' (iL .u8 (xs ++ digL v many)) ∧ StepT 5 base w w1) := by
 have hS : StepT 5 base w w := StepT.refl _ _ _
 refine CV_enter Try.f52 _ 23 [(0, .slice A n c), (1, .int .i64 ((v : Nat) : Int)), (2, .int .i64 ((many : Nat) : Int))] Try.func52 rfl rfl (by kernel_rfl) rfl ?_
 refine VC_seq ?_
 refine VC_region ?_
 refine VL_pure 1 [0, 1, 2] [(0, .slice A n c), (1, .int .i64 ((v : Nat) : Int)), (2, .int .i64 ((many : Nat) : Int))] (by kernel_rfl) rfl ?_
 refine VL_end (by kernel_rfl) ?_
 refine VQ_next ?_
 refine VC_seq ?_
 refine VC_seq ?_
 refine VC_region ?_
 refine VL_pure 2 [0, 1, 9] [(0, .slice A n c), (1, .int .i64 ((v : Nat) : Int)), (9, .int .i64 (IntKind.wrap .i64 (((many : Nat) : Int) - 1)))] (by kernel_rfl) rfl ?_
 have he1 : IntKind.wrap .i64 (((many : Nat) : Int) - 1) = ((many - 1 : Nat) : Int) := (by rw [wrap_i64 _ (by omega) (by omega)]; omega)
 refine VL_eq [(0, .slice A n c), (1, .int .i64 ((v : Nat) : Int)), (9, .int .i64 ((many - 1 : Nat) : Int))] (by rw [he1]) ?_
 refine VL_eq [(0, .slice A n c), (1, .int .i64 ((v : Nat) : Int)), (9, .int .i64 (((many : Nat) : Int) - 1 - ((0 : Nat) : Int)))] (by first | rfl | (rw [show ((many - 1 : Nat) : Int) = ((many : Nat) : Int) - 1 - ((0 : Nat) : Int) by omega])) ?_
 refine VL_pure 3 [0, 1, 7] [(0, .slice A n c), (1, .int .i64 ((v : Nat) : Int)), (7, .int .i64 (((many : Nat) : Int) - 1 - ((0 : Nat) : Int)))] (by kernel_rfl) rfl ?_
 refine VL_end (by kernel_rfl) ?_
 refine VQ_next ?_
 refine VC_block ?_
 refine VC_loop (σ := Nat × (Option Addr) × Nat) (fun σs => [(1, .int .i64 ((v : Nat) : Int)), (7, .int .i64 (((many : Nat) : Int) - 1 - ((σs.1 : Nat) : Int))), (0, .slice σs.2.1 (n + σs.1) σs.2.2)]) (fun σs w1 => (σs.1 ≤ many) ∧ (StepT 5 base w w1) ∧ (base ≤ w1.heap.size) ∧ (Rw w1 base 5 σs.2.1 (n + σs.1) σs.2.2 (iL .u8 (xs ++ (digL v many).take σs.1)))) (fun σs w1 => many - σs.1) ⟨0, A, c⟩ ⟨rfl, rfl, rfl, trivial⟩ ?_ ?_
 ·exact ⟨Nat.zero_le _, hS, hbase, (Rw.cast hA rfl (by simp))⟩
 rintro ⟨j, A1, c1⟩ w1 ⟨hj, hS, hbase, hr1⟩
 try dsimp only at hj hS hbase hr1 ⊢
 refine VC_seq ?_
 refine VC_seq ?_
 refine VC_region ?_
 refine VL_pure 2 [1, 7, 0, 11] [(1, .int .i64 ((v : Nat) : Int)), (7, .int .i64 (((many : Nat) : Int) - 1 - ((j : Nat) : Int))), (0, .slice A1 (n + j) c1), (11, .bool (decide ((((many : Nat) : Int) - 1 - ((j : Nat) : Int)) ≥ 0)))] (by kernel_rfl) rfl ?_
 refine VL_end (by kernel_rfl) ?_
 refine VQ_next ?_
 refine VC_dec ((((many : Nat) : Int) - 1 - ((j : Nat) : Int)) ≥ 0) (by kernel_rfl) (fun h1 => ?_) (fun h1 => ?_)
 ·refine VC_skip ?_
  refine VQ_next ?_
  refine VC_seq ?_
  refine VC_block ?_
  refine VC_region ?_
  refine VL_pure 4 [1, 7, 14, 15, 17] [(1, .int .i64 ((v : Nat) : Int)), (7, .int .i64 (((many : Nat) : Int) - 1 - ((j : Nat) : Int))), (14, .slice A1 (n + j) c1), (15, .int .i64 ((v : Nat) : Int)), (17, .int .i64 (IntKind.wrap .i64 (8 * (((many : Nat) : Int) - 1 - ((j : Nat) : Int)))))] (by kernel_rfl) rfl ?_
  refine VL_shr (d := 18) (k := .i64) (x := ((v : Nat) : Int)) (y := (IntKind.wrap .i64 (8 * (((many : Nat) : Int) - 1 - ((j : Nat) : Int))))) (by kernel_rfl) (by kernel_rfl) (8 * (many - 1 - j)) (by rw [wrap_i64 _ (by omega) (by omega)]; omega) (by simp only [IntKind.bits]; omega) ?_
  refine VL_pure 6 [1, 7, 14, 19] [(1, .int .i64 ((v : Nat) : Int)), (7, .int .i64 (((many : Nat) : Int) - 1 - ((j : Nat) : Int))), (14, .slice A1 (n + j) c1), (19, .int .u8 (IntKind.wrap .u8 (((v : Nat) : Int).fdiv (2 ^ (8 * (many - 1 - j))))))] (by kernel_rfl) rfl ?_
  have hzs1 := hS.size
  have hzk1 := hbase
  have hub1 := hr1.ub
  refine VL_bs (d := 20) (e := 5) (c := #[.int .u8 (IntKind.wrap .u8 (((v : Nat) : Int).fdiv (2 ^ (8 * (many - 1 - j)))))]) (len := 1) (by kernel_rfl) (by kernel_rfl) ?_
  intro b1 w2 hn1
  replace hS := StepT.no hS (hn1.step No)
  replace hbase := Nat.le_trans hbase (hn1.step No).size
  replace hr1 := hr1.no (hn1.step No)
  have ho1 := hn1.own
  have hzhn1 := hn1.size
  have hqhn1 := hn1.eqb
  have hzs2 := hS.size
  have hzk2 := hbase
  have hzl1 := ho1.lt
  refine VL_appendT (d := 21) (e := 5) (A := A1) (m := (n + j)) (c := c1) (A2 := (some ⟨b1, 0, none⟩)) (m2 := 1) (c2 := 1) (bytes := 1) (by kernel_rfl) (by kernel_rfl) (by kernel_rfl) base w2.heap.size (iL .u8 (xs ++ (digL v many).take j)) (iL .u8 ([IntKind.wrap .u8 (((v : Nat) : Int).fdiv (2 ^ (8 * (many - 1 - j))))])) hr1 (by rw [iL_length]; first | done | exact rfl) (Sl.mono (Own.sl ho1 ho1.lt) (by first | exact Nat.le_refl _ | omega)) iL_one (n + j + 1) (by omega) (by simp only [maxLen]; omega) (by omega) (by omega) ?_
  intro A2 c2 w3 hr2 hg1
  replace hr2 : Rw w3 base 5 A2 (n + j + 1) c2 (iL .u8 (xs ++ (digL v many).take j ++ ([IntKind.wrap .u8 (((v : Nat) : Int).fdiv (2 ^ (8 * (many - 1 - j))))]))) := Rw.cast hr2 rfl (by simp only [iL, List.map_append, List.map_cons, List.map_nil, List.append_assoc, List.cons_append, List.nil_append, List.append_nil])
  have hzhg1 := hg1.size
  have hg1S : Step (fun k => base ≤ k) _ _ := Step.mono hg1 (fun i hi => hi.1)
  replace hS := StepT.trans hS (StepT.low hg1 (by omega))
  replace hbase := Nat.le_trans hbase (hg1S).size
  refine VL_pure 9 [1, 7, 0] [(1, .int .i64 ((v : Nat) : Int)), (7, .int .i64 (((many : Nat) : Int) - 1 - ((j : Nat) : Int))), (0, .slice A2 (n + j + 1) c2)] (by kernel_rfl) rfl ?_
  refine VL_end (by kernel_rfl) ?_
  refine VQ_block_normal ?_
  refine VQ_next ?_
  refine VC_region ?_
  refine VL_pure 2 [1, 0, 13] [(1, .int .i64 ((v : Nat) : Int)), (0, .slice A2 (n + j + 1) c2), (13, .int .i64 (IntKind.wrap .i64 ((((many : Nat) : Int) - 1 - ((j : Nat) : Int)) - 1)))] (by kernel_rfl) rfl ?_
  refine VL_eq [(1, .int .i64 ((v : Nat) : Int)), (0, .slice A2 (n + j + 1) c2), (13, .int .i64 (((many : Nat) : Int) - 1 - (((j + 1) : Nat) : Int)))] (by rw [wrap_i64 _ (by omega) (by omega)]; rw [show ((many : Nat) : Int) - 1 - ((j : Nat) : Int) - 1 = ((many : Nat) : Int) - 1 - ((j + 1 : Nat) : Int) by omega]) ?_
  refine VL_pure 3 [1, 0, 7] [(1, .int .i64 ((v : Nat) : Int)), (0, .slice A2 (n + j + 1) c2), (7, .int .i64 (((many : Nat) : Int) - 1 - (((j + 1) : Nat) : Int)))] (by kernel_rfl) rfl ?_
  refine VL_end (by kernel_rfl) ?_
  refine VQ_again ⟨j + 1, A2, c2⟩ ⟨rfl, rfl, rfl, trivial⟩ ?_ ?_
  ·exact ⟨(by omega), hS, hbase, (Rw.cast hr2 (by omega) (by rw [List.append_assoc, digL_succ _ _ _ (by omega)]))⟩
  ·(try dsimp only); omega
 ·refine VC_exit ?_
  refine VQ_then_exit ?_
  refine VQ_then_exit ?_
  refine VQ_block_hit ?_
  refine VQ_next ?_
  refine VC_seq ?_
  refine VC_region ?_
  refine VL_pure 2 [6] [(6, .slice A1 (n + j) c1)] (by kernel_rfl) rfl ?_
  refine VL_end (by kernel_rfl) ?_
  refine VQ_next ?_
  refine VC_ret ?_
  refine VQ_ret1 (.slice A1 (n + j) c1) (.inr rfl) rfl rfl ?_
  obtain rfl : many = j := by omega
  exact ⟨_, _, rfl, Rw.cast hr1 rfl (by rw [List.take_of_length_le (by rw [digL_len]; omega)]), hS⟩

set_option maxRecDepth 100000 in
set_option maxHeartbeats 4000000 in
theorem get_any (A : Option Addr) (n c Bd : Nat) (bs : List Int) (w : World) (hn : bs.length = n) (hA : Sl w Bd A (iL .u8 bs)) (hlen : n ≤ 100000) :
  CV Try.prog 53 #[.slice A n c] w (fun x w1 => x = .int .i64 (getL bs) ∧ Step No w w1) := by
 have hS : Step No w w := Step.refl _ _
 refine CV_enter Try.f53 _ 19 [(0, .slice A n c)] Try.func53 rfl rfl (by kernel_rfl) rfl ?_
 refine VC_seq ?_
 refine VC_region ?_
 refine VL_pure 1 [0] [(0, .slice A n c)] (by kernel_rfl) rfl ?_
 refine VL_end (by kernel_rfl) ?_
 refine VQ_next ?_
 refine VC_seq ?_
 refine VC_region ?_
 refine VL_pure 1 [0, 3] [(0, .slice A n c), (3, .int .i64 0)] (by kernel_rfl) rfl ?_
 refine VL_end (by kernel_rfl) ?_
 refine VQ_next ?_
 refine VC_seq ?_
 refine VC_seq ?_
 refine VC_region ?_
 refine VL_pure 3 [3, 6, 7, 8] [(3, .int .i64 0), (6, .slice A n c), (7, .int .i64 ((n : Nat) : Int)), (8, .int .i64 0)] (by kernel_rfl) rfl ?_
 refine VL_end (by kernel_rfl) ?_
 refine VQ_next ?_
 refine VC_block ?_
 refine VC_loop (σ := Nat) (fun σs => [(6, .slice A n c), (7, .int .i64 ((n : Nat) : Int)), (8, .int .i64 ((σs : Nat) : Int)), (3, .int .i64 (getL (bs.take σs)))]) (fun σs w1 => (σs ≤ n) ∧ (Step No w w1) ∧ (Sl w1 Bd A (iL .u8 bs))) (fun σs w1 => n - σs) 0 ⟨rfl, rfl, rfl, rfl, trivial⟩ ?_ ?_
 ·exact ⟨Nat.zero_le _, hS, hA⟩
 rintro j w1 ⟨hj, hS, hA⟩
 try dsimp only at hj hS hA ⊢
 refine VC_seq ?_
 refine VC_region ?_
 refine VL_pure 1 [6, 7, 8, 3, 9] [(6, .slice A n c), (7, .int .i64 ((n : Nat) : Int)), (8, .int .i64 ((j : Nat) : Int)), (3, .int .i64 (getL (bs.take j))), (9, .bool (decide (((j : Nat) : Int) < ((n : Nat) : Int))))] (by kernel_rfl) rfl ?_
 refine VL_end (by kernel_rfl) ?_
 refine VQ_next ?_
 refine VC_seq ?_
 refine VC_dec (((j : Nat) : Int) < ((n : Nat) : Int)) (by kernel_rfl) (fun h1 => ?_) (fun h1 => ?_)
 ·refine VC_skip ?_
  refine VQ_next ?_
  refine VC_seq ?_
  refine VC_block ?_
  refine VC_seq ?_
  refine VC_region ?_
  obtain ⟨sb1, so1, rfl, hlbsb1⟩ := hA.open (by simp only [iL_length]; omega)
  refine VL_index (d := 10) (b := sb1) (o := so1) (len := n) (sz := 1) (m := ((j : Nat) : Int)) (by kernel_rfl) (by kernel_rfl) j (by rfl) (by omega) (so1 + j) (by omega) ?_
  refine VL_load (d := 11) (t := 5) (a := ⟨sb1, so1 + j, none⟩) (v := .int .u8 (bs.getD j 0)) (by kernel_rfl) (by kernel_rfl) (Sl.ldI hA (by kernel_rfl) j (by (try simp only [List.length_set, List.length_append, List.length_map, List.length_replicate, List.length_cons, List.length_nil, List.length_take, List.length_drop, List.length_range]) <;> omega)) ?_
  refine VL_pure 3 [6, 7, 8, 3, 5] [(6, .slice (some ⟨sb1, so1, none⟩) n c), (7, .int .i64 ((n : Nat) : Int)), (8, .int .i64 ((j : Nat) : Int)), (3, .int .i64 (getL (bs.take j))), (5, .int .u8 (bs.getD j 0))] (by kernel_rfl) rfl ?_
  refine VL_end (by kernel_rfl) ?_
  refine VQ_next ?_
  refine VC_region ?_
  refine VL_pure 5 [6, 7, 8, 16] [(6, .slice (some ⟨sb1, so1, none⟩) n c), (7, .int .i64 ((n : Nat) : Int)), (8, .int .i64 ((j : Nat) : Int)), (16, .int .i64 (bOr .i64 (IntKind.wrap .i64 ((getL (bs.take j)) * 2 ^ 8)) (IntKind.wrap .i64 (bs.getD j 0))))] (by kernel_rfl) rfl ?_
  refine VL_eq [(6, .slice (some ⟨sb1, so1, none⟩) n c), (7, .int .i64 ((n : Nat) : Int)), (8, .int .i64 ((j : Nat) : Int)), (16, .int .i64 (getL (bs.take (j + 1))))] (by rw [getL_succ (show j < bs.length by omega)]) ?_
  refine VL_pure 6 [6, 7, 8, 3] [(6, .slice (some ⟨sb1, so1, none⟩) n c), (7, .int .i64 ((n : Nat) : Int)), (8, .int .i64 ((j : Nat) : Int)), (3, .int .i64 (getL (bs.take (j + 1))))] (by kernel_rfl) rfl ?_
  refine VL_end (by kernel_rfl) ?_
  refine VQ_block_normal ?_
  refine VQ_next ?_
  refine VC_region ?_
  refine VL_pure 1 [6, 7, 3, 17] [(6, .slice (some ⟨sb1, so1, none⟩) n c), (7, .int .i64 ((n : Nat) : Int)), (3, .int .i64 (getL (bs.take (j + 1)))), (17, .int .i64 (IntKind.wrap .i64 (((j : Nat) : Int) + 1)))] (by kernel_rfl) rfl ?_
  have he1 : IntKind.wrap .i64 (((j : Nat) : Int) + 1) = ((j + 1 : Nat) : Int) := (by rw [wrap_i64 _ (by omega) (by omega)]; omega)
  refine VL_eq [(6, .slice (some ⟨sb1, so1, none⟩) n c), (7, .int .i64 ((n : Nat) : Int)), (3, .int .i64 (getL (bs.take (j + 1)))), (17, .int .i64 ((j + 1 : Nat) : Int))] (by rw [he1]) ?_
  refine VL_pure 2 [6, 7, 3, 8] [(6, .slice (some ⟨sb1, so1, none⟩) n c), (7, .int .i64 ((n : Nat) : Int)), (3, .int .i64 (getL (bs.take (j + 1)))), (8, .int .i64 ((j + 1 : Nat) : Int))] (by kernel_rfl) rfl ?_
  refine VL_end (by kernel_rfl) ?_
  refine VQ_again (j + 1) ⟨rfl, rfl, rfl, rfl, trivial⟩ ?_ ?_
  ·exact ⟨(by omega), hS, hA⟩
  ·(try dsimp only); omega
 ·refine VC_exit ?_
  refine VQ_then_exit ?_
  refine VQ_then_exit ?_
  refine VQ_block_hit ?_
  refine VQ_next ?_
  refine VC_seq ?_
  refine VC_region ?_
  refine VL_pure 2 [2] [(2, .int .i64 (getL (bs.take j)))] (by kernel_rfl) rfl ?_
  refine VL_end (by kernel_rfl) ?_
  refine VQ_next ?_
  refine VC_ret ?_
  refine VQ_ret1 (.int .i64 (getL (bs.take j))) (.inr rfl) rfl rfl ?_
  obtain rfl : j = n := by omega
  exact ⟨by rw [List.take_of_length_le (by omega)], hS⟩

set_option maxRecDepth 100000 in
set_option maxHeartbeats 4000000 in
theorem clone_some (b o n c Bd : Nat) (bs : List Int) (w : World) (hn : bs.length = n) (hA : Sl w Bd (some ⟨b, o, none⟩) (iL .u8 bs)) (hlen : n ≤ 1000000) (hBd : Bd ≤ w.heap.size) :
  CV Try.prog 43 #[.slice (some ⟨b, o, none⟩) n c] w (fun x w1 => ∃ A' c', x = .slice A' n c' ∧ Rw w1 w.heap.size 5 A' n c' (iL .u8 bs) ∧ Step No w w1) := by
 have hS : Step No w w := Step.refl _ _
 refine CV_enter Try.f43 _ 8 [(0, .slice (some ⟨b, o, none⟩) n c)] Try.func43 rfl rfl (by kernel_rfl) rfl ?_
 refine VC_seq ?_
 refine VC_region ?_
 refine VL_pure 1 [0] [(0, .slice (some ⟨b, o, none⟩) n c)] (by kernel_rfl) rfl ?_
 refine VL_end (by kernel_rfl) ?_
 refine VQ_next ?_
 refine VC_seq ?_
 refine VC_seq ?_
 refine VC_region ?_
 refine VL_pure 2 [0, 4] [(0, .slice (some ⟨b, o, none⟩) n c), (4, .bool false)] (by kernel_rfl) rfl ?_
 refine VL_end (by kernel_rfl) ?_
 refine VQ_next ?_
 refine VC_false (by kernel_rfl) ?_
 refine VC_skip ?_
 refine VQ_next ?_
 refine VC_seq ?_
 refine VC_region ?_
 have hzs1 := hS.size
 refine VL_bs (d := 5) (e := 5) (c := #[]) (len := 0) (by kernel_rfl) (by kernel_rfl) ?_
 intro b1 w1 hn1
 replace hS := Step.trans hS (hn1.step No)
 replace hA := hA.no (hn1.step No)
 have ho1 := hn1.own
 have hzhn1 := hn1.size
 have hqhn1 := hn1.eqb
 refine VL_pure 2 [5, 6] [(5, .slice (some ⟨b1, 0, none⟩) 0 0), (6, .slice (some ⟨b, o, none⟩) n c)] (by kernel_rfl) rfl ?_
 have hzs2 := hS.size
 have hzl1 := ho1.lt
 have hbase1 := Nat.le_of_lt ho1.lt
 refine VL_appendS (d := 7) (e := 5) (A := (some ⟨b1, 0, none⟩)) (m := 0) (c := 0) (A2 := (some ⟨b, o, none⟩)) (m2 := n) (c2 := c) (bytes := 1) (by kernel_rfl) (by kernel_rfl) (by kernel_rfl) b1 w1.heap.size (iL .u8 ([])) (iL .u8 bs) (Rw.of_new ho1 (Nat.le_refl _) (Nat.le_of_ble_eq_true (by kernel_rfl))) (by rw [iL_length]; first | done | exact hn) (Sl.mono hA (by first | exact Nat.le_refl _ | omega)) iL_one n (by omega) (by simp only [maxLen]; omega) (by omega) (by omega) ?_
 intro A1 c1 w2 hr1 hg1
 replace hr1 : Rw w2 b1 5 A1 n c1 (iL .u8 bs) := Rw.cast hr1 rfl (by simp only [iL, List.map_append, List.map_cons, List.map_nil, List.append_assoc, List.cons_append, List.nil_append, List.append_nil])
 have hzhg1 := hg1.size
 replace hS := Step.transNew hS hg1 (fun i hi hG => by (try simp only at hG); omega)
 replace hA := hA.step hg1 (fun k hk hG => by (try simp only at hG); omega)
 replace hbase1 := Nat.le_trans hbase1 (hg1).size
 refine VL_pure 4 [2] [(2, .slice A1 n c1)] (by kernel_rfl) rfl ?_
 refine VL_end (by kernel_rfl) ?_
 refine VQ_next ?_
 refine VC_ret ?_
 refine VQ_ret1 (.slice A1 n c1) (.inr rfl) rfl rfl ?_
 exact ⟨_, _, rfl, Rw.low hr1 (by omega), hS⟩

set_option maxRecDepth 100000 in
set_option maxHeartbeats 4000000 in
theorem clone_none (w : World) :
  CV Try.prog 43 #[.slice none 0 0] w (fun x w1 => x = .slice none 0 0 ∧ Step No w w1) := by
 have hS : Step No w w := Step.refl _ _
 refine CV_enter Try.f43 _ 8 [(0, .slice none 0 0)] Try.func43 rfl rfl (by kernel_rfl) rfl ?_
 refine VC_seq ?_
 refine VC_region ?_
 refine VL_pure 1 [0] [(0, .slice none 0 0)] (by kernel_rfl) rfl ?_
 refine VL_end (by kernel_rfl) ?_
 refine VQ_next ?_
 refine VC_seq ?_
 refine VC_seq ?_
 refine VC_region ?_
 refine VL_pure 2 [0, 4] [(0, .slice none 0 0), (4, .bool true)] (by kernel_rfl) rfl ?_
 refine VL_end (by kernel_rfl) ?_
 refine VQ_next ?_
 refine VC_true (by kernel_rfl) ?_
 refine VC_seq ?_
 refine VC_region ?_
 refine VL_pure 1 [2] [(2, .slice none 0 0)] (by kernel_rfl) rfl ?_
 refine VL_end (by kernel_rfl) ?_
 refine VQ_next ?_
 refine VC_ret ?_
 refine VQ_then_ret ?_
 refine VQ_ret1 (.slice none 0 0) (.inr rfl) rfl rfl ?_
 exact ⟨rfl, hS⟩

end Go.Proofs.Ytejpcmjokamdcaa
end

section
/- Layer 1, the document's: Same. -/
set_option linter.unusedVariables false
set_option linter.unusedSimpArgs false
namespace Go.Proofs.Ytejpcmjokamdcaa
open Go.Vc Go.RowKit

theorem same_yes {xs bs : List Int} {na nb : Nat} (ha : xs.length = na) (hb : bs.length = nb) (hl : na = nb) (h : ∀ i, i < na → xs.getD i 0 = bs.getD i 0) : (xs == bs) = true := by
  rw [beq_iff_eq]
  apply List.ext_getElem (by omega)
  intro i h1 h2
  have := h i (by omega)
  simpa [List.getD, List.getElem?_eq_getElem h1, List.getElem?_eq_getElem h2] using this
theorem same_len {xs bs : List Int} {na nb : Nat} (ha : xs.length = na) (hb : bs.length = nb) (hl : ¬ na = nb) : (xs == bs) = false := by
  rw [beq_eq_false_iff_ne]
  rintro rfl
  omega
theorem same_no {xs bs : List Int} {na nb k : Nat} (ha : xs.length = na) (hb : bs.length = nb) (hl : na = nb) (h : xs.getD k 0 ≠ bs.getD k 0) : (xs == bs) = false := by
  rw [beq_eq_false_iff_ne]
  rintro rfl
  exact h rfl
set_option maxRecDepth 100000 in
set_option maxHeartbeats 4000000 in
theorem same_any (A : Option Addr) (na ca Ba : Nat) (as_ : List Int) (B : Option Addr) (nb cb Bb : Nat) (bs : List Int) (w : World) (ha : as_.length = na) (hA : Sl w Ba A (iL .u8 as_)) (hb : bs.length = nb) (hB : Sl w Bb B (iL .u8 bs)) (hla : na < 1000000) (hlb : nb < 1000000) (hBa : Ba ≤ w.heap.size) (hBb : Bb ≤ w.heap.size) :
  CV Try.prog 15 #[.slice A na ca, .slice B nb cb] w (fun x w1 => x = .bool (as_ == bs) ∧ Step No w w1) := by
 have hS : Step No w w := Step.refl _ _
 refine CV_enter Try.f15 _ 26 [(0, .slice A na ca), (1, .slice B nb cb)] Try.func15 rfl rfl (by kernel_rfl) rfl ?_
 refine VC_seq ?_
 refine VC_region ?_
 refine VL_pure 1 [0, 1] [(0, .slice A na ca), (1, .slice B nb cb)] (by kernel_rfl) rfl ?_
 refine VL_end (by kernel_rfl) ?_
 refine VQ_next ?_
 refine VC_seq ?_
 refine VC_seq ?_
 refine VC_region ?_
 refine VL_pure 5 [0, 1, 10] [(0, .slice A na ca), (1, .slice B nb cb), (10, .bool (((na : Nat) : Int) != ((nb : Nat) : Int)))] (by kernel_rfl) rfl ?_
 refine VL_end (by kernel_rfl) ?_
 refine VQ_next ?_
 refine VC_ne ((na : Nat) : Int) ((nb : Nat) : Int) (by kernel_rfl) (fun h1 => ?_) (fun h1 => ?_)
 ·refine VC_seq ?_
  refine VC_region ?_
  refine VL_pure 1 [4] [(4, .bool false)] (by kernel_rfl) rfl ?_
  refine VL_end (by kernel_rfl) ?_
  refine VQ_next ?_
  refine VC_ret ?_
  refine VQ_then_ret ?_
  refine VQ_ret1 (.bool false) (.inr rfl) rfl rfl ?_
  first | exact ⟨congrArg Value.bool (Eq.symm (same_len ha hb (by omega))), hS⟩ | exact ⟨congrArg Value.bool (Eq.symm (same_no ha hb (by omega) (k := k) (by assumption))), hS⟩
 ·refine VC_skip ?_
  refine VQ_next ?_
  refine VC_seq ?_
  refine VC_seq ?_
  refine VC_region ?_
  refine VL_pure 3 [0, 1, 12, 13] [(0, .slice A na ca), (1, .slice B nb cb), (12, .int .i64 ((na : Nat) : Int)), (13, .int .i64 0)] (by kernel_rfl) rfl ?_
  refine VL_end (by kernel_rfl) ?_
  refine VQ_next ?_
  refine VC_block ?_
  refine VC_loop (σ := Nat) (fun σs => [(0, .slice A na ca), (1, .slice B nb cb), (12, .int .i64 ((na : Nat) : Int)), (13, .int .i64 ((σs : Nat) : Int))]) (fun σs w1 => (σs ≤ na) ∧ (∀ i, i < σs → as_.getD i 0 = bs.getD i 0) ∧ (Step No w w1) ∧ (Sl w1 Ba A (iL .u8 as_)) ∧ (Sl w1 Bb B (iL .u8 bs))) (fun σs w1 => na - σs) 0 ⟨rfl, rfl, rfl, rfl, trivial⟩ ?_ ?_
  ·exact ⟨Nat.zero_le _, fun i hi => absurd hi (Nat.not_lt_zero _), hS, hA, hB⟩
  rintro k w1 ⟨hk, hk2, hS, hA, hB⟩
  try dsimp only at hk hk2 hS hA hB ⊢
  refine VC_seq ?_
  refine VC_region ?_
  refine VL_pure 1 [0, 1, 12, 13, 14] [(0, .slice A na ca), (1, .slice B nb cb), (12, .int .i64 ((na : Nat) : Int)), (13, .int .i64 ((k : Nat) : Int)), (14, .bool (decide (((k : Nat) : Int) < ((na : Nat) : Int))))] (by kernel_rfl) rfl ?_
  refine VL_end (by kernel_rfl) ?_
  refine VQ_next ?_
  refine VC_seq ?_
  refine VC_dec (((k : Nat) : Int) < ((na : Nat) : Int)) (by kernel_rfl) (fun h2 => ?_) (fun h2 => ?_)
  ·refine VC_skip ?_
   refine VQ_next ?_
   refine VC_seq ?_
   refine VC_block ?_
   refine VC_seq ?_
   refine VC_region ?_
   refine VL_pure 2 [0, 1, 12, 13, 5] [(0, .slice A na ca), (1, .slice B nb cb), (12, .int .i64 ((na : Nat) : Int)), (13, .int .i64 ((k : Nat) : Int)), (5, .int .i64 ((k : Nat) : Int))] (by kernel_rfl) rfl ?_
   refine VL_end (by kernel_rfl) ?_
   refine VQ_next ?_
   refine VC_seq ?_
   obtain ⟨sb1, so1, rfl, hlbsb1⟩ := hA.open (by simp only [iL_length]; omega)
   obtain ⟨sb2, so2, rfl, hlbsb2⟩ := hB.open (by simp only [iL_length]; omega)
   refine VC_det [[], [], [0, 1], [0, 1, 2], [], [], [4, 5], [4, 5, 6], [0, 1, 2, 3, 4, 5, 6, 7]] 8 [.slice (some ⟨sb1, so1, none⟩) na ca, .int .i64 ((k : Nat) : Int), .pointer (some ⟨sb1, so1 + k, none⟩), .int .u8 (as_.getD k 0), .slice (some ⟨sb2, so2, none⟩) nb cb, .int .i64 ((k : Nat) : Int), .pointer (some ⟨sb2, so2 + k, none⟩), .int .u8 (bs.getD k 0)] [0, 1, 4, 5] [2, 3, 6, 7] (by kernel_rfl) (by kernel_rfl) (by kernel_rfl) (by kernel_rfl) ?_ ?_
   ·intro w2 hs1
    replace hS := Step.trans hS hs1
    replace hA := hA.no hs1
    replace hB := hB.no hs1
    exact ⟨Det1_index (d := 18) (b := sb1) (o := so1) (len := na) (sz := 1) (m := ((k : Nat) : Int)) (by kernel_rfl) (by kernel_rfl) k (by rfl) (by omega) (so1 + k) (by omega), Det1_load (d := 19) (t := 5) (a := ⟨sb1, so1 + k, none⟩) (by kernel_rfl) (by kernel_rfl) (Sl.ldI hA (by kernel_rfl) k (by (try simp only [List.length_set, List.length_append, List.length_map, List.length_replicate, List.length_cons, List.length_nil, List.length_take, List.length_drop, List.length_range]) <;> omega)), Det1_index (d := 22) (b := sb2) (o := so2) (len := nb) (sz := 1) (m := ((k : Nat) : Int)) (by kernel_rfl) (by kernel_rfl) k (by rfl) (by omega) (so2 + k) (by omega), Det1_load (d := 23) (t := 5) (a := ⟨sb2, so2 + k, none⟩) (by kernel_rfl) (by kernel_rfl) (Sl.ldI hB (by kernel_rfl) k (by (try simp only [List.length_set, List.length_append, List.length_map, List.length_replicate, List.length_cons, List.length_nil, List.length_take, List.length_drop, List.length_range]) <;> omega)), trivial⟩
   intro w2 hs1
   replace hS := Step.trans hS hs1
   replace hA := hA.no hs1
   replace hB := hB.no hs1
   refine VL_keep [0, 1, 12, 13, 19, 23] [(0, .slice (some ⟨sb1, so1, none⟩) na ca), (1, .slice (some ⟨sb2, so2, none⟩) nb cb), (12, .int .i64 ((na : Nat) : Int)), (13, .int .i64 ((k : Nat) : Int)), (19, .int .u8 (as_.getD k 0)), (23, .int .u8 (bs.getD k 0))] (by kernel_rfl) ?_
   refine VL_pure 9 [0, 1, 12, 13, 24] [(0, .slice (some ⟨sb1, so1, none⟩) na ca), (1, .slice (some ⟨sb2, so2, none⟩) nb cb), (12, .int .i64 ((na : Nat) : Int)), (13, .int .i64 ((k : Nat) : Int)), (24, .bool ((as_.getD k 0) != (bs.getD k 0)))] (by kernel_rfl) rfl ?_
   refine VL_end (by kernel_rfl) ?_
   refine VQ_next ?_
   refine VC_ne (as_.getD k 0) (bs.getD k 0) (by kernel_rfl) (fun h3 => ?_) (fun h3 => ?_)
   ·refine VC_seq ?_
    refine VC_region ?_
    refine VL_pure 1 [4] [(4, .bool false)] (by kernel_rfl) rfl ?_
    refine VL_end (by kernel_rfl) ?_
    refine VQ_next ?_
    refine VC_ret ?_
    refine VQ_block_ret ?_
    refine VQ_then_ret ?_
    refine VQ_then_ret ?_
    refine VQ_block_ret ?_
    refine VQ_then_ret ?_
    refine VQ_ret1 (.bool false) (.inr rfl) rfl rfl ?_
    first | exact ⟨congrArg Value.bool (Eq.symm (same_len ha hb (by omega))), hS⟩ | exact ⟨congrArg Value.bool (Eq.symm (same_no ha hb (by omega) (k := k) (by assumption))), hS⟩
   ·refine VC_skip ?_
    refine VQ_block_normal ?_
    refine VQ_next ?_
    refine VC_region ?_
    refine VL_pure 1 [0, 1, 12, 25] [(0, .slice (some ⟨sb1, so1, none⟩) na ca), (1, .slice (some ⟨sb2, so2, none⟩) nb cb), (12, .int .i64 ((na : Nat) : Int)), (25, .int .i64 (IntKind.wrap .i64 (((k : Nat) : Int) + 1)))] (by kernel_rfl) rfl ?_
    have he1 : IntKind.wrap .i64 (((k : Nat) : Int) + 1) = ((k + 1 : Nat) : Int) := (by rw [wrap_i64 _ (by omega) (by omega)]; omega)
    refine VL_eq [(0, .slice (some ⟨sb1, so1, none⟩) na ca), (1, .slice (some ⟨sb2, so2, none⟩) nb cb), (12, .int .i64 ((na : Nat) : Int)), (25, .int .i64 ((k + 1 : Nat) : Int))] (by rw [he1]) ?_
    refine VL_pure 2 [0, 1, 12, 13] [(0, .slice (some ⟨sb1, so1, none⟩) na ca), (1, .slice (some ⟨sb2, so2, none⟩) nb cb), (12, .int .i64 ((na : Nat) : Int)), (13, .int .i64 ((k + 1 : Nat) : Int))] (by kernel_rfl) rfl ?_
    refine VL_end (by kernel_rfl) ?_
    refine VQ_again (k + 1) ⟨rfl, rfl, rfl, rfl, trivial⟩ ?_ ?_
    ·exact ⟨(by omega), fun i hi => by rcases Nat.lt_succ_iff_lt_or_eq.1 hi with h | rfl; exact hk2 i h; assumption, hS, hA, hB⟩
    ·(try dsimp only); omega
  ·refine VC_exit ?_
   refine VQ_then_exit ?_
   refine VQ_then_exit ?_
   refine VQ_block_hit ?_
   refine VQ_next ?_
   refine VC_seq ?_
   refine VC_region ?_
   refine VL_pure 1 [4] [(4, .bool true)] (by kernel_rfl) rfl ?_
   refine VL_end (by kernel_rfl) ?_
   refine VQ_next ?_
   refine VC_ret ?_
   refine VQ_ret1 (.bool true) (.inr rfl) rfl rfl ?_
   obtain rfl : k = na := by omega
   exact ⟨congrArg Value.bool (Eq.symm (same_yes ha hb (by omega) (fun i hi => hk2 i hi))), hS⟩

end Go.Proofs.Ytejpcmjokamdcaa
end

section
/- Layer 15: Pack, both; Same. -/
set_option linter.unusedVariables false
set_option linter.unusedSimpArgs false
namespace Go.Proofs.Ytejpcmjokamdcaa
open Go.Vc Go.RowKit

theorem pk1_any (id : Int) (A : Option Addr) (n c : Nat) (w : World) :
  CV Try.prog 51 #[.agg #[.int .u8 id, .slice A n c]] w (fun x w1 => x = .bool (decide (((n : Nat) : Int) > 200)) ∧ Step No w w1) := by
 have hS : Step No w w := Step.refl _ _
 refine CV_enter Try.f51 _ 7 [(0, .agg #[.int .u8 id, .slice A n c])] Try.func51 rfl rfl (by kernel_rfl) rfl ?_
 refine VC_seq ?_
 refine VC_region ?_
 have hzs1 := hS.size
 refine VL_box (d := 1) (t := 60) (c := #[.int .u8 id, .slice A n c]) (by kernel_rfl) (by kernel_rfl) ?_
 intro b1 w1 hn1
 replace hS := Step.trans hS (hn1.step No)
 have ho1 := hn1.own
 have hzhn1 := hn1.size
 have hqhn1 := hn1.eqb
 refine VL_pure 2 [1] [(1, .pointer (some ⟨b1, 0, none⟩))] (by kernel_rfl) rfl ?_
 refine VL_end (by kernel_rfl) ?_
 refine VQ_next ?_
 refine VC_seq ?_
 refine VC_region ?_
 refine VL_pure 1 [3] [(3, .pointer (some ⟨b1, 1, none⟩))] (by kernel_rfl) rfl ?_
 refine VL_load (d := 4) (t := 25) (a := ⟨b1, 1, none⟩) (v := .slice A n c) (by kernel_rfl) (by kernel_rfl) (Loads.own1 ho1 (by kernel_rfl) (by rfl)) ?_
 refine VL_pure 5 [2] [(2, .bool (decide (((n : Nat) : Int) > 200)))] (by kernel_rfl) rfl ?_
 refine VL_end (by kernel_rfl) ?_
 refine VQ_next ?_
 refine VC_ret ?_
 refine VQ_ret1 (.bool (decide (((n : Nat) : Int) > 200))) (.inr rfl) rfl rfl ?_
 exact ⟨rfl, hS⟩

set_option maxRecDepth 100000 in
set_option maxHeartbeats 4000000 in
theorem ixl_any (A : Option Addr) (n c lo hi : Nat) (l : List IeV) (w : World) (hn : l.length = n) (hA : Ies w lo hi A l) (hlen : n ≤ 1000000) :
  CV Try.prog 54 #[.slice A n c, .func (.func 51) #[] #[]] w (fun v w1 => ((v = .int .i64 (-1) ∧ ∀ i y, i < n → l[i]? = some y → y.n ≤ 200) ∨ ∃ k y, k < n ∧ l[k]? = some y ∧ 200 < y.n ∧ v = .int .i64 ((k : Nat) : Int)) ∧ Step No w w1) := by
 have hS : Step No w w := Step.refl _ _
 refine CV_enter Try.f54 _ 19 [(0, .slice A n c), (1, .func (.func 51) #[] #[])] Try.func54 rfl rfl (by kernel_rfl) rfl ?_
 refine VC_seq ?_
 refine VC_region ?_
 refine VL_pure 1 [0, 1] [(0, .slice A n c), (1, .func (.func 51) #[] #[])] (by kernel_rfl) rfl ?_
 refine VL_end (by kernel_rfl) ?_
 refine VQ_next ?_
 refine VC_seq ?_
 refine VC_seq ?_
 refine VC_region ?_
 refine VL_pure 3 [0, 1, 7, 8] [(0, .slice A n c), (1, .func (.func 51) #[] #[]), (7, .int .i64 ((n : Nat) : Int)), (8, .int .i64 0)] (by kernel_rfl) rfl ?_
 refine VL_end (by kernel_rfl) ?_
 refine VQ_next ?_
 refine VC_block ?_
 refine VC_loop (σ := Nat) (fun σs => [(0, .slice A n c), (1, .func (.func 51) #[] #[]), (7, .int .i64 ((n : Nat) : Int)), (8, .int .i64 ((σs : Nat) : Int))]) (fun σs w1 => (σs ≤ n) ∧ (∀ i y, i < σs → l[i]? = some y → y.n ≤ 200) ∧ (Step No w w1) ∧ (Ies w1 lo hi A l)) (fun σs w1 => n - σs) 0 ⟨rfl, rfl, rfl, rfl, trivial⟩ ?_ ?_
 ·exact ⟨Nat.zero_le _, fun i y hi => absurd hi (Nat.not_lt_zero _), hS, hA⟩
 rintro k w1 ⟨hk, hz, hS, hA⟩
 try dsimp only at hk hz hS hA ⊢
 refine VC_seq ?_
 refine VC_region ?_
 refine VL_pure 1 [0, 1, 7, 8, 9] [(0, .slice A n c), (1, .func (.func 51) #[] #[]), (7, .int .i64 ((n : Nat) : Int)), (8, .int .i64 ((k : Nat) : Int)), (9, .bool (decide (((k : Nat) : Int) < ((n : Nat) : Int))))] (by kernel_rfl) rfl ?_
 refine VL_end (by kernel_rfl) ?_
 refine VQ_next ?_
 refine VC_seq ?_
 refine VC_dec (((k : Nat) : Int) < ((n : Nat) : Int)) (by kernel_rfl) (fun h1 => ?_) (fun h1 => ?_)
 ·refine VC_skip ?_
  refine VQ_next ?_
  refine VC_seq ?_
  refine VC_block ?_
  refine VC_seq ?_
  refine VC_region ?_
  refine VL_pure 2 [0, 1, 7, 8, 5] [(0, .slice A n c), (1, .func (.func 51) #[] #[]), (7, .int .i64 ((n : Nat) : Int)), (8, .int .i64 ((k : Nat) : Int)), (5, .int .i64 ((k : Nat) : Int))] (by kernel_rfl) rfl ?_
  refine VL_end (by kernel_rfl) ?_
  refine VQ_next ?_
  refine VC_seq ?_
  refine VC_region ?_
  refine VL_pure 3 [0, 1, 7, 8, 5, 11, 12, 13] [(0, .slice A n c), (1, .func (.func 51) #[] #[]), (7, .int .i64 ((n : Nat) : Int)), (8, .int .i64 ((k : Nat) : Int)), (5, .int .i64 ((k : Nat) : Int)), (11, .func (.func 51) #[] #[]), (12, .slice A n c), (13, .int .i64 ((k : Nat) : Int))] (by kernel_rfl) rfl ?_
  obtain ⟨sb1, so1, rfl, hlbsb1⟩ := hA.open (by omega)
  refine VL_index (d := 14) (b := sb1) (o := so1) (len := n) (sz := 2) (m := ((k : Nat) : Int)) (by kernel_rfl) (by kernel_rfl) k (by rfl) (by omega) (so1 + k * 2) (by omega) ?_
  obtain ⟨⟨x1i, x1A, x1n, x1c, x1b⟩, hx1⟩ : ∃ x, l[k]? = some x := ⟨_, List.getElem?_eq_getElem (by omega)⟩
  obtain ⟨hnx1, hcx1, hbx1⟩ := Ies.body hA hx1
  dsimp only at hnx1 hcx1 hbx1
  refine VL_load (d := 15) (t := 60) (a := ⟨sb1, so1 + k * 2, none⟩) (v := .agg #[.int .u8 x1i, .slice x1A x1n x1c]) (by kernel_rfl) (by kernel_rfl) (Ies.ld hA (by kernel_rfl) hx1) ?_
  have hzs1 := hS.size
  refine VL_call (d := 16) (f := 51) (args := #[.agg #[.int .u8 x1i, .slice x1A x1n x1c]]) (by kernel_rfl) (by kernel_rfl) (by kernel_rfl) Try.call51 (pk1_any x1i x1A x1n x1c _) ?_
  rintro _ w2 ⟨rfl, hc1⟩
  replace hS := Step.trans hS hc1
  replace hA := hA.no hc1
  replace hbx1 := hbx1.no hc1
  refine VL_end (by kernel_rfl) ?_
  refine VQ_next ?_
  refine VC_dec (((x1n : Nat) : Int) > 200) (by kernel_rfl) (fun h2 => ?_) (fun h2 => ?_)
  ·refine VC_seq ?_
   refine VC_region ?_
   refine VL_pure 2 [4] [(4, .int .i64 ((k : Nat) : Int))] (by kernel_rfl) rfl ?_
   refine VL_end (by kernel_rfl) ?_
   refine VQ_next ?_
   refine VC_ret ?_
   refine VQ_block_ret ?_
   refine VQ_then_ret ?_
   refine VQ_then_ret ?_
   refine VQ_block_ret ?_
   refine VQ_then_ret ?_
   refine VQ_ret1 (.int .i64 ((k : Nat) : Int)) (.inr rfl) rfl rfl ?_
   exact ⟨.inr ⟨k, _, by omega, hx1, (by dsimp only; omega), rfl⟩, hS⟩
  ·refine VC_skip ?_
   refine VQ_block_normal ?_
   refine VQ_next ?_
   refine VC_region ?_
   refine VL_pure 1 [0, 1, 7, 18] [(0, .slice (some ⟨sb1, so1, none⟩) n c), (1, .func (.func 51) #[] #[]), (7, .int .i64 ((n : Nat) : Int)), (18, .int .i64 (IntKind.wrap .i64 (((k : Nat) : Int) + 1)))] (by kernel_rfl) rfl ?_
   have he1 : IntKind.wrap .i64 (((k : Nat) : Int) + 1) = ((k + 1 : Nat) : Int) := (by rw [wrap_i64 _ (by omega) (by omega)]; omega)
   refine VL_eq [(0, .slice (some ⟨sb1, so1, none⟩) n c), (1, .func (.func 51) #[] #[]), (7, .int .i64 ((n : Nat) : Int)), (18, .int .i64 ((k + 1 : Nat) : Int))] (by rw [he1]) ?_
   refine VL_pure 2 [0, 1, 7, 8] [(0, .slice (some ⟨sb1, so1, none⟩) n c), (1, .func (.func 51) #[] #[]), (7, .int .i64 ((n : Nat) : Int)), (8, .int .i64 ((k + 1 : Nat) : Int))] (by kernel_rfl) rfl ?_
   refine VL_end (by kernel_rfl) ?_
   refine VQ_again (k + 1) ⟨rfl, rfl, rfl, rfl, trivial⟩ ?_ ?_
   ·exact ⟨(by omega), fun i y hi hy => by rcases Nat.lt_succ_iff_lt_or_eq.1 hi with h9 | rfl; exact hz i y h9 hy; rw [hx1] at hy; cases hy; dsimp only; omega, hS, hA⟩
   ·(try dsimp only); omega
 ·refine VC_exit ?_
  refine VQ_then_exit ?_
  refine VQ_then_exit ?_
  refine VQ_block_hit ?_
  refine VQ_next ?_
  refine VC_seq ?_
  refine VC_region ?_
  refine VL_pure 1 [4] [(4, .int .i64 (-1))] (by kernel_rfl) rfl ?_
  refine VL_end (by kernel_rfl) ?_
  refine VQ_next ?_
  refine VC_ret ?_
  refine VQ_ret1 (.int .i64 (-1)) (.inr rfl) rfl rfl ?_
  exact ⟨.inl ⟨rfl, fun i y hi hy => hz i y (by omega) hy⟩, hS⟩

set_option maxRecDepth 100000 in
set_option maxHeartbeats 4000000 in
theorem cfl_any (A : Option Addr) (n c lo hi : Nat) (l : List IeV) (w : World) (hn : l.length = n) (hA : Ies w lo hi A l) (hlen : n ≤ 1000000) :
  CV Try.prog 50 #[.slice A n c, .func (.func 51) #[] #[]] w (fun v w1 => v = .bool (anyL l) ∧ Step No w w1) := by
 have hS : Step No w w := Step.refl _ _
 refine CV_enter Try.f50 _ 9 [(0, .slice A n c), (1, .func (.func 51) #[] #[])] Try.func50 rfl rfl (by kernel_rfl) rfl ?_
 refine VC_seq ?_
 refine VC_region ?_
 refine VL_pure 1 [0, 1] [(0, .slice A n c), (1, .func (.func 51) #[] #[])] (by kernel_rfl) rfl ?_
 refine VL_end (by kernel_rfl) ?_
 refine VQ_next ?_
 refine VC_seq ?_
 refine VC_region ?_
 refine VL_pure 2 [5, 6] [(5, .slice A n c), (6, .func (.func 51) #[] #[])] (by kernel_rfl) rfl ?_
 have hzs1 := hS.size
 refine VL_call (d := 7) (f := 54) (args := #[.slice A n c, .func (.func 51) #[] #[]]) (by kernel_rfl) (by kernel_rfl) (by kernel_rfl) Try.call54 (ixl_any A n c lo hi l _ hn hA (by omega)) ?_
 rintro _ w1 ⟨(⟨rfl, hz⟩ | ⟨k, y, hk1, hk2, hk3, rfl⟩), hc1⟩
 ·replace hS := Step.trans hS hc1
  replace hA := hA.no hc1
  refine VL_pure 5 [4] [(4, .bool false)] (by kernel_rfl) rfl ?_
  refine VL_end (by kernel_rfl) ?_
  refine VQ_next ?_
  refine VC_ret ?_
  refine VQ_ret1 (.bool false) (.inr rfl) rfl rfl ?_
  first | exact ⟨congrArg Value.bool (Eq.symm ((anyL_no hn hz).trans (by first | rfl | simp))), hS⟩ | exact ⟨congrArg Value.bool (Eq.symm ((anyL_yes hk2 hk3).trans (by first | rfl | (simp; omega) | simp))), hS⟩
 ·replace hS := Step.trans hS hc1
  replace hA := hA.no hc1
  refine VL_pure 5 [4] [(4, .bool (decide (((k : Nat) : Int) ≥ 0)))] (by kernel_rfl) rfl ?_
  refine VL_end (by kernel_rfl) ?_
  refine VQ_next ?_
  refine VC_ret ?_
  refine VQ_ret1 (.bool (decide (((k : Nat) : Int) ≥ 0))) (.inr rfl) rfl rfl ?_
  first | exact ⟨congrArg Value.bool (Eq.symm ((anyL_no hn hz).trans (by first | rfl | simp))), hS⟩ | exact ⟨congrArg Value.bool (Eq.symm ((anyL_yes hk2 hk3).trans (by first | rfl | (simp; omega) | simp))), hS⟩

set_option maxRecDepth 100000 in
set_option maxHeartbeats 4000000 in
theorem pack_any (A : Option Addr) (n c lo hi : Nat) (l : List IeV) (w : World) (hn : l.length = n) (hA : Ies w lo hi A l) (hlen : n ≤ 1000000) (hhi : hi ≤ w.heap.size) :
  CV Try.prog 28 #[.slice A n c] w (fun x w1 => PackR w w1 5 x (packT (vals l)) (packE (vals l))) := by
 have hS : Step No w w := Step.refl _ _
 refine CV_enter Try.f28 _ 34 [(0, .slice A n c)] Try.func28 rfl rfl (by kernel_rfl) rfl ?_
 refine VC_seq ?_
 refine VC_region ?_
 refine VL_pure 2 [0] [(0, .slice A n c)] (by kernel_rfl) rfl ?_
 refine VL_end (by kernel_rfl) ?_
 refine VQ_next ?_
 refine VC_seq ?_
 refine VC_seq ?_
 refine VC_region ?_
 refine VL_pure 4 [0, 10] [(0, .slice A n c), (10, .bool (decide (((n : Nat) : Int) > 16)))] (by kernel_rfl) rfl ?_
 refine VL_dec (((n : Nat) : Int) > 16) (fun bV => [(0, .slice A n c), (10, .bool bV)]) rfl (fun hg1 => ?_) (fun hg1 => ?_)
 ·refine VL_pure 7 [0, 13] [(0, .slice A n c), (13, .bool true)] (by kernel_rfl) rfl ?_
  refine VL_end (by kernel_rfl) ?_
  refine VQ_next ?_
  refine VC_true (by kernel_rfl) ?_
  refine VC_seq ?_
  refine VC_region ?_
  refine VL_pure 2 [2, 3] [(2, .slice none 0 0), (3, .int .i64 6)] (by kernel_rfl) rfl ?_
  refine VL_end (by kernel_rfl) ?_
  refine VQ_next ?_
  refine VC_ret ?_
  refine VQ_then_ret ?_
  refine VQ_ret2 (.slice none 0 0) (.int .i64 6) (.inr rfl) rfl rfl rfl ?_
  first | exact PackR.no (ok_not1 hn (by omega)) hS | exact PackR.no (ok_not2 (by assumption) (fun x hx => (hA.all x hx).len)) hS
 ·refine VL_pure 5 [0, 10, 11] [(0, .slice A n c), (10, .bool false), (11, .slice A n c)] (by kernel_rfl) rfl ?_
  have hzs1 := hS.size
  refine VL_call (d := 12) (f := 50) (args := #[.slice A n c, .func (.func 51) #[] #[]]) (by kernel_rfl) (by kernel_rfl) (by kernel_rfl) Try.call50 (cfl_any A n c lo hi l _ hn hA (by omega)) ?_
  rintro _ w1 ⟨rfl, hc1⟩
  replace hS := Step.trans hS hc1
  replace hA := hA.no hc1
  refine VL_pure 7 [0, 13] [(0, .slice A n c), (13, .bool (anyL l))] (by kernel_rfl) rfl ?_
  refine VL_end (by kernel_rfl) ?_
  refine VQ_next ?_
  refine VC_cond (anyL l) (by kernel_rfl) (fun h1 => ?_) (fun h1 => ?_)
  ·try simp only [Bool.and_eq_true, Bool.or_eq_true, decide_eq_true_eq, Bool.not_eq_true', decide_eq_false_iff_not, Bool.and_eq_false_iff, Bool.or_eq_false_iff, beq_iff_eq, bne_iff_ne, beq_eq_false_iff_ne, bne_eq_false_iff_eq, Bool.not_eq_eq_eq_not, Bool.not_true, Bool.not_false] at h1
   refine VC_seq ?_
   refine VC_region ?_
   refine VL_pure 2 [2, 3] [(2, .slice none 0 0), (3, .int .i64 6)] (by kernel_rfl) rfl ?_
   refine VL_end (by kernel_rfl) ?_
   refine VQ_next ?_
   refine VC_ret ?_
   refine VQ_then_ret ?_
   refine VQ_ret2 (.slice none 0 0) (.int .i64 6) (.inr rfl) rfl rfl rfl ?_
   first | exact PackR.no (ok_not1 hn (by omega)) hS | exact PackR.no (ok_not2 (by assumption) (fun x hx => (hA.all x hx).len)) hS
  ·try simp only [Bool.and_eq_true, Bool.or_eq_true, decide_eq_true_eq, Bool.not_eq_true', decide_eq_false_iff_not, Bool.and_eq_false_iff, Bool.or_eq_false_iff, beq_iff_eq, bne_iff_ne, beq_eq_false_iff_ne, bne_eq_false_iff_eq, Bool.not_eq_eq_eq_not, Bool.not_true, Bool.not_false] at h1
   refine VC_skip ?_
   refine VQ_next ?_
   refine VC_seq ?_
   refine VC_region ?_
   refine VL_pure 1 [0, 4] [(0, .slice A n c), (4, .slice none 0 0)] (by kernel_rfl) rfl ?_
   refine VL_end (by kernel_rfl) ?_
   refine VQ_next ?_
   refine VC_seq ?_
   refine VC_seq ?_
   refine VC_region ?_
   refine VL_pure 3 [4, 14, 15, 16] [(4, .slice none 0 0), (14, .slice A n c), (15, .int .i64 ((n : Nat) : Int)), (16, .int .i64 0)] (by kernel_rfl) rfl ?_
   refine VL_end (by kernel_rfl) ?_
   refine VQ_next ?_
   refine VC_block ?_
   have hok : okL (vals l) := ok_of hn (by omega) (by assumption) (fun x hx => (hA.all x hx).len)
   obtain ⟨base1, hbase1E⟩ : ∃ x, x = w1.heap.size := ⟨_, rfl⟩
   have hbase1 : base1 ≤ w1.heap.size := Nat.le_of_eq hbase1E
   have hzs2 := hS.size
   have hzk1 := hbase1
   refine VC_loop (σ := Nat × Nat × (Option Addr) × Nat) (fun σs => [(14, .slice A n c), (15, .int .i64 ((n : Nat) : Int)), (16, .int .i64 ((σs.1 : Nat) : Int)), (4, .slice σs.2.2.1 σs.2.1 σs.2.2.2)]) (fun σs w2 => (σs.1 ≤ n) ∧ (Step No w w2) ∧ (Ies w2 lo hi A l) ∧ (base1 ≤ w2.heap.size) ∧ (Rw w2 base1 5 σs.2.2.1 σs.2.1 σs.2.2.2 (iL .u8 (packL ((vals l).take σs.1))))) (fun σs w2 => n - σs.1) ⟨0, 0, none, 0⟩ ⟨rfl, rfl, rfl, rfl, trivial⟩ ?_ ?_
   ·exact ⟨Nat.zero_le _, hS, hA, hbase1, (Rw.cast (Rw.nil w1 base1 5) rfl rfl)⟩
   rintro ⟨k, m, A1, c1⟩ w2 ⟨hk, hS, hA, hbase1, hr1⟩
   try dsimp only at hk hS hA hbase1 hr1 ⊢
   have hPl := ok_le hok k
   have hlnhr1 := Rw.lenI hr1
   refine VC_seq ?_
   refine VC_region ?_
   refine VL_pure 1 [14, 15, 16, 4, 17] [(14, .slice A n c), (15, .int .i64 ((n : Nat) : Int)), (16, .int .i64 ((k : Nat) : Int)), (4, .slice A1 m c1), (17, .bool (decide (((k : Nat) : Int) < ((n : Nat) : Int))))] (by kernel_rfl) rfl ?_
   refine VL_end (by kernel_rfl) ?_
   refine VQ_next ?_
   refine VC_seq ?_
   refine VC_dec (((k : Nat) : Int) < ((n : Nat) : Int)) (by kernel_rfl) (fun h2 => ?_) (fun h2 => ?_)
   ·refine VC_skip ?_
    refine VQ_next ?_
    refine VC_seq ?_
    refine VC_block ?_
    refine VC_seq ?_
    refine VC_region ?_
    obtain ⟨sb1, so1, rfl, hlbsb1⟩ := hA.open (by omega)
    refine VL_index (d := 18) (b := sb1) (o := so1) (len := n) (sz := 2) (m := ((k : Nat) : Int)) (by kernel_rfl) (by kernel_rfl) k (by rfl) (by omega) (so1 + k * 2) (by omega) ?_
    obtain ⟨⟨x1i, x1A, x1n, x1c, x1b⟩, hx1⟩ : ∃ x, l[k]? = some x := ⟨_, List.getElem?_eq_getElem (by omega)⟩
    obtain ⟨hnx1, hcx1, hbx1⟩ := Ies.body hA hx1
    dsimp only at hnx1 hcx1 hbx1
    refine VL_load (d := 19) (t := 60) (a := ⟨sb1, so1 + k * 2, none⟩) (v := .agg #[.int .u8 x1i, .slice x1A x1n x1c]) (by kernel_rfl) (by kernel_rfl) (Ies.ld hA (by kernel_rfl) hx1) ?_
    have hzs3 := hS.size
    have hzk2 := hbase1
    have hub1 := hr1.ub
    refine VL_box (d := 6) (t := 60) (c := #[.int .u8 0, .slice none 0 0]) (by kernel_rfl) (by kernel_rfl) ?_
    intro b1 w3 hn1
    replace hS := Step.trans hS (hn1.step No)
    replace hA := hA.no (hn1.step No)
    replace hbase1 := Nat.le_trans hbase1 (hn1.step No).size
    replace hr1 := hr1.no (hn1.step No)
    replace hbx1 := hbx1.no (hn1.step No)
    have ho1 := hn1.own
    have hzhn1 := hn1.size
    have hqhn1 := hn1.eqb
    refine VL_store (b := b1) (o := 0) (vs := [.int .u8 x1i, .slice x1A x1n x1c]) (by kernel_rfl) (by kernel_rfl) ho1 (Nat.le_of_ble_eq_true (by kernel_rfl)) ?_
    intro w4 hw1
    replace hS := Step.transNew hS hw1.step (fun _ _ _ => by omega)
    replace hA := hA.step hw1.step (fun k hk1 hk2 (hF : k = b1) => by omega)
    replace hbase1 := Nat.le_trans hbase1 (hw1.step).size
    replace hr1 := hr1.stepU hub1 hw1.step (fun k hk1 hk2 (hF : k = b1) => by omega)
    replace hbx1 := hbx1.step hw1.step (fun k hk (hF : k = b1) => by omega)
    have ho2 : Own w4 b1 #[.int .u8 x1i, .slice x1A x1n x1c] 60 := Own.cast hw1.own (by kernel_rfl)
    have hzhw1 := hw1.same
    refine VL_end (by kernel_rfl) ?_
    refine VQ_next ?_
    have hx2 : x1n ≤ 200 := by have hq := hok.2 _ (List.mem_of_getElem? (vals_get hx1)); dsimp only at hq; omega
    have hs1 := drew_step w4
    have hs1z : w4.heap.size = w4.drew.heap.size := rfl
    refine VC_text [[], [], [1], [1, 2], [0, 1, 2, 3], [], [5], [5, 6], [0, 1, 2, 3, 4, 5, 6, 7], [], [9], [0, 1, 2, 3, 4, 5, 6, 7, 8, 9, 10], [0, 1, 2, 3, 4, 5, 6, 7, 8, 9, 10, 11]] 11 (fun x y => Step (fun k => (base1 ≤ k ∧ (k < b1 ∨ b1 < k)) ∨ w4.heap.size ≤ k) x y) [3, 4, 8] [0, 1, 2, 5, 6, 7, 9, 10, 3, 4, 8] (by kernel_rfl) (by kernel_rfl) (by kernel_rfl) (by kernel_rfl) (fun x => Step.refl _ x) (fun h k => Step.trans h k) Step.weak ?_
    have hzs4 := hS.size
    have hzl1 := ho2.lt
    generalize w4.drew = w5 at hs1 hs1z ⊢
    replace hS := Step.trans hS hs1
    replace hA := hA.no hs1
    replace hbase1 := Nat.le_trans hbase1 (hs1).size
    replace hr1 := hr1.no hs1
    replace hbx1 := hbx1.no hs1
    replace ho2 := ho2.no hs1
    refine VT_pures 2 (kn' := [(1, .pointer (some ⟨b1, 0, none⟩)), (0, .slice A1 m c1)]) (by kernel_rfl) ?_
    refine VT_load (d := 22) (t := 5) (a := ⟨b1, 0, none⟩) (v := .int .u8 x1i) (by kernel_rfl) (by kernel_rfl) ?_ ?_
    ·intro w6 hr2
     replace hS := Step.transNew hS hr2 (fun i hi hG => by (try simp only at hG); omega)
     replace hA := hA.step hr2 (fun k hk1 hk2 hG => by (try simp only at hG); omega)
     replace hbase1 := Nat.le_trans hbase1 (hr2).size
     replace hbx1 := hbx1.step hr2 (fun k hk hG => by (try simp only at hG); omega)
     replace ho2 := ho2.step hr2 (by (try simp only); omega)
     exact (Loads.own1 ho2 (by kernel_rfl) (by rfl))
    refine VT_pures 1 (kn' := [(5, .pointer (some ⟨b1, 1, none⟩)), (2, .int .u8 x1i), (1, .pointer (some ⟨b1, 0, none⟩)), (0, .slice A1 m c1)]) (by kernel_rfl) ?_
    refine VT_load (d := 26) (t := 25) (a := ⟨b1, 1, none⟩) (v := .slice x1A x1n x1c) (by kernel_rfl) (by kernel_rfl) ?_ ?_
    ·intro w7 hr3
     replace hS := Step.transNew hS hr3 (fun i hi hG => by (try simp only at hG); omega)
     replace hA := hA.step hr3 (fun k hk1 hk2 hG => by (try simp only at hG); omega)
     replace hbase1 := Nat.le_trans hbase1 (hr3).size
     replace hbx1 := hbx1.step hr3 (fun k hk hG => by (try simp only at hG); omega)
     replace ho2 := ho2.step hr3 (by (try simp only); omega)
     exact (Loads.own1 ho2 (by kernel_rfl) (by rfl))
    refine VT_pures 2 (kn' := [(9, .pointer (some ⟨b1, 1, none⟩)), (7, .int .i64 ((x1n : Nat) : Int)), (6, .slice x1A x1n x1c), (5, .pointer (some ⟨b1, 1, none⟩)), (2, .int .u8 x1i), (1, .pointer (some ⟨b1, 0, none⟩)), (0, .slice A1 m c1)]) (by kernel_rfl) ?_
    refine VT_load (d := 30) (t := 25) (a := ⟨b1, 1, none⟩) (v := .slice x1A x1n x1c) (by kernel_rfl) (by kernel_rfl) ?_ ?_
    ·intro w8 hr4
     replace hS := Step.transNew hS hr4 (fun i hi hG => by (try simp only at hG); omega)
     replace hA := hA.step hr4 (fun k hk1 hk2 hG => by (try simp only at hG); omega)
     replace hbase1 := Nat.le_trans hbase1 (hr4).size
     replace hbx1 := hbx1.step hr4 (fun k hk hG => by (try simp only at hG); omega)
     replace ho2 := ho2.step hr4 (by (try simp only); omega)
     exact (Loads.own1 ho2 (by kernel_rfl) (by rfl))
    refine VT_chain (by kernel_rfl) ?_
    intro w9 hs2
    have hzhs2 := hs2.size
    replace hS := Step.trans hS hs2
    replace hA := hA.no hs2
    replace hbase1 := Nat.le_trans hbase1 (hs2).size
    replace hr1 := hr1.no hs2
    replace hbx1 := hbx1.no hs2
    replace ho2 := ho2.no hs2
    have hzs5 := hS.size
    have hzk3 := hbase1
    have hzl2 := ho2.lt
    have hzs6 := hS.size
    have hzk4 := hbase1
    have hzl3 := ho2.lt
    refine VTc_bs (d := 23) (e := 5) (c := #[.int .u8 x1i, .int .u8 128]) (len := 2) (by kernel_rfl) (by kernel_rfl) (fun b w1 hn => hn.step _) ?_
    intro b2 w10 hn2
    replace hS := Step.trans hS (hn2.step No)
    replace hA := hA.no (hn2.step No)
    replace hbase1 := Nat.le_trans hbase1 (hn2.step No).size
    replace hr1 := hr1.no (hn2.step No)
    replace hbx1 := hbx1.no (hn2.step No)
    replace ho2 := ho2.no (hn2.step No)
    have ho3 := hn2.own
    have hzhn2 := hn2.size
    have hqhn2 := hn2.eqb
    refine VT_chain (by kernel_rfl) ?_
    intro w11 hs3
    have hzhs3 := hs3.size
    replace hS := Step.trans hS hs3
    replace hA := hA.no hs3
    replace hbase1 := Nat.le_trans hbase1 (hs3).size
    replace hr1 := hr1.no hs3
    replace hbx1 := hbx1.no hs3
    replace ho2 := ho2.no hs3
    replace ho3 := ho3.no hs3
    have hzs7 := hS.size
    have hzk5 := hbase1
    have hzl4 := ho2.lt
    have hzl5 := ho3.lt
    refine VTc_appendT (d := 24) (e := 5) (A := A1) (mm := m) (c := c1) (A2 := (some ⟨b2, 0, none⟩)) (m2 := 2) (c2 := 2) (bytes := 1) (by kernel_rfl) (by kernel_rfl) (by kernel_rfl) base1 w11.heap.size (iL .u8 (packL ((vals l).take k))) (iL .u8 ([x1i, 128])) hr1 (by rw [iL_length]; first | done | exact rfl) (Sl.mono (Own.sl ho3 ho3.lt) (by first | exact Nat.le_refl _ | omega)) iL_one (m + 2) (by omega) (by simp only [maxLen]; omega) (by omega) (by omega) ?_ ?_
    ·intro w1 hs1; exact Step.mono hs1 (fun i hi => by have hi1 := hi.1; have hxb1 := hi.2.ne ho2 (by decide); (try simp only); omega)
    intro A2 c2 w12 hr5 hg2
    replace hr5 : Rw w12 base1 5 A2 (m + 2) c2 (iL .u8 ((packL ((vals l).take k)) ++ ([x1i, 128]))) := Rw.cast hr5 rfl (by simp only [iL, List.map_append, List.map_cons, List.map_nil, List.append_assoc, List.cons_append, List.nil_append, List.append_nil])
    have hzhg2 := hg2.size
    have hg2S : Step (fun k => base1 ≤ k ∧ (k < b1 ∨ b1 < k)) _ _ := Step.mono hg2 (fun i hi => ⟨hi.1, Nat.lt_or_gt_of_ne (hi.2.ne ho2 (by decide))⟩)
    replace hS := Step.transNew hS hg2S (fun i hi hG => by (try simp only at hG); omega)
    replace hA := hA.step hg2S (fun k hk1 hk2 hG => by (try simp only at hG); omega)
    replace hbase1 := Nat.le_trans hbase1 (hg2S).size
    replace hbx1 := hbx1.step hg2S (fun k hk hG => by (try simp only at hG); omega)
    replace ho2 := ho2.step hg2S (by (try simp only); omega)
    refine VT_chain (by kernel_rfl) ?_
    intro w13 hs4
    have hzhs4 := hs4.size
    replace hS := Step.trans hS hs4
    replace hA := hA.no hs4
    replace hbase1 := Nat.le_trans hbase1 (hs4).size
    replace hbx1 := hbx1.no hs4
    replace ho2 := ho2.no hs4
    replace hr5 := hr5.no hs4
    have hzs8 := hS.size
    have hzl6 := ho2.lt
    refine VTc_call (d := 28) (f := 52) (by kernel_rfl) (by kernel_rfl) (by kernel_rfl) Try.call52 (put_any A2 (m + 2) c2 _ base1 ((packL ((vals l).take k)) ++ ([x1i, 128])) x1n 2 hr5 (by omega) (by omega) (by omega)) ?_ ?_
    ·rintro _ w14 ⟨A3, c3, rfl, hr6, hc2⟩
     exact Step.mono hc2 (fun i hi => by have hi1 := hi.1; have hxb1 := hi.2.ne ho2 (by decide); (try simp only); omega)
    rintro _ w14 ⟨A3, c3, rfl, hr6, hc2⟩
    have hzhc2 := (hc2).size
    have hc2S : Step (fun k => base1 ≤ k ∧ (k < b1 ∨ b1 < k)) _ _ := Step.mono hc2 (fun i hi => ⟨hi.1, Nat.lt_or_gt_of_ne (hi.2.ne ho2 (by decide))⟩)
    replace hS := Step.transNew hS hc2S (fun i hi hG => by (try simp only at hG); omega)
    replace hA := hA.step hc2S (fun k hk1 hk2 hG => by (try simp only at hG); omega)
    replace hbase1 := Nat.le_trans hbase1 (hc2S).size
    replace hbx1 := hbx1.step hc2S (fun k hk hG => by (try simp only at hG); omega)
    replace ho2 := ho2.step hc2S (by (try simp only); omega)
    replace hr6 : Rw w14 base1 5 A3 (m + 2 + 2) c3 (iL .u8 ((packL ((vals l).take k)) ++ ([x1i, 128]) ++ (digL x1n 2))) := Rw.cast hr6 (by omega) (by first | rfl | simp only [List.nil_append, List.append_assoc])
    refine VT_end ?_
    intro w15 hs5
    replace hS := Step.trans hS hs5
    replace hA := hA.no hs5
    replace hbase1 := Nat.le_trans hbase1 (hs5).size
    replace hbx1 := hbx1.no hs5
    replace ho2 := ho2.no hs5
    replace hr6 := hr6.no hs5
    refine VL_keep [14, 15, 16, 30, 28] [(14, .slice (some ⟨sb1, so1, none⟩) n c), (15, .int .i64 ((n : Nat) : Int)), (16, .int .i64 ((k : Nat) : Int)), (30, .slice x1A x1n x1c), (28, .slice A3 (m + 2 + 2) c3)] (by kernel_rfl) ?_
    have hzs9 := hS.size
    have hzk6 := hbase1
    have hzl7 := ho2.lt
    refine VL_appendT (d := 31) (e := 5) (A := A3) (m := (m + 2 + 2)) (c := c3) (A2 := x1A) (m2 := x1n) (c2 := x1c) (bytes := 1) (by kernel_rfl) (by kernel_rfl) (by kernel_rfl) base1 w15.heap.size (iL .u8 ((packL ((vals l).take k)) ++ ([x1i, 128]) ++ (digL x1n 2))) (iL .u8 x1b) hr6 (by rw [iL_length]; first | done | exact hnx1) (Sl.mono hbx1 (by first | exact Nat.le_refl _ | omega)) iL_one (m + 2 + 2 + x1n) (by omega) (by simp only [maxLen]; omega) (by omega) (by omega) ?_
    intro A4 c4 w16 hr7 hg3
    replace hr7 : Rw w16 base1 5 A4 (m + 2 + 2 + x1n) c4 (iL .u8 ((packL ((vals l).take k)) ++ ([x1i, 128]) ++ (digL x1n 2) ++ x1b)) := Rw.cast hr7 rfl (by simp only [iL, List.map_append, List.map_cons, List.map_nil, List.append_assoc, List.cons_append, List.nil_append, List.append_nil])
    have hzhg3 := hg3.size
    have hg3S : Step (fun k => base1 ≤ k ∧ (k < b1 ∨ b1 < k)) _ _ := Step.mono hg3 (fun i hi => ⟨hi.1, Nat.lt_or_gt_of_ne (hi.2.ne ho2 (by decide))⟩)
    replace hS := Step.transNew hS hg3S (fun i hi hG => by (try simp only at hG); omega)
    replace hA := hA.step hg3S (fun k hk1 hk2 hG => by (try simp only at hG); omega)
    replace hbase1 := Nat.le_trans hbase1 (hg3S).size
    replace hbx1 := hbx1.step hg3S (fun k hk hG => by (try simp only at hG); omega)
    replace ho2 := ho2.step hg3S (by (try simp only); omega)
    refine VL_pure 13 [14, 15, 16, 4] [(14, .slice (some ⟨sb1, so1, none⟩) n c), (15, .int .i64 ((n : Nat) : Int)), (16, .int .i64 ((k : Nat) : Int)), (4, .slice A4 (m + 2 + 2 + x1n) c4)] (by kernel_rfl) rfl ?_
    refine VL_end (by kernel_rfl) ?_
    refine VQ_block_normal ?_
    refine VQ_next ?_
    refine VC_region ?_
    refine VL_pure 1 [14, 15, 4, 32] [(14, .slice (some ⟨sb1, so1, none⟩) n c), (15, .int .i64 ((n : Nat) : Int)), (4, .slice A4 (m + 2 + 2 + x1n) c4), (32, .int .i64 (IntKind.wrap .i64 (((k : Nat) : Int) + 1)))] (by kernel_rfl) rfl ?_
    have he1 : IntKind.wrap .i64 (((k : Nat) : Int) + 1) = ((k + 1 : Nat) : Int) := (by rw [wrap_i64 _ (by omega) (by omega)]; omega)
    refine VL_eq [(14, .slice (some ⟨sb1, so1, none⟩) n c), (15, .int .i64 ((n : Nat) : Int)), (4, .slice A4 (m + 2 + 2 + x1n) c4), (32, .int .i64 ((k + 1 : Nat) : Int))] (by rw [he1]) ?_
    refine VL_pure 2 [14, 15, 4, 16] [(14, .slice (some ⟨sb1, so1, none⟩) n c), (15, .int .i64 ((n : Nat) : Int)), (4, .slice A4 (m + 2 + 2 + x1n) c4), (16, .int .i64 ((k + 1 : Nat) : Int))] (by kernel_rfl) rfl ?_
    refine VL_end (by kernel_rfl) ?_
    refine VQ_again ⟨k + 1, m + 2 + 2 + x1n, A4, c4⟩ ⟨rfl, rfl, rfl, rfl, trivial⟩ ?_ ?_
    ·exact ⟨(by omega), hS, hA, hbase1, (Rw.cast hr7 rfl (by rw [pack_step hx1 hnx1 hx2]; simp))⟩
    ·(try dsimp only); omega
   ·refine VC_exit ?_
    refine VQ_then_exit ?_
    refine VQ_then_exit ?_
    refine VQ_block_hit ?_
    refine VQ_next ?_
    refine VC_seq ?_
    refine VC_region ?_
    refine VL_pure 3 [2, 3] [(2, .slice A1 m c1), (3, .int .i64 0)] (by kernel_rfl) rfl ?_
    refine VL_end (by kernel_rfl) ?_
    refine VQ_next ?_
    refine VC_ret ?_
    refine VQ_ret2 (.slice A1 m c1) (.int .i64 0) (.inr rfl) rfl rfl rfl ?_
    obtain rfl : n = k := by omega
    exact PackR.yes hok hr1 (by rw [List.take_of_length_le (by rw [vals_len]; omega)]) (by omega) hS

end Go.Proofs.Ytejpcmjokamdcaa
end
