/- The calculus' tenth part: append. -/
import Derived.Test.YtfkahhkojlfmdaaVc9
import Derived.Laws.AppendOwn
set_option linter.unusedVariables false
set_option linter.unusedSimpArgs false
namespace Go.Vc
open Go.RowKit
section
variable {r : Option Nat} {n : Nat} {ds : List Deferred} {P : Program} {ops : Array Oper} {Q : Exit → Act → World → Prop} {l : List (Nat × Value)} {w : World} {i : Nat} {K : List (Nat × Value) → World → Prop}
/-- What append asks of an element's type: its cells, its bytes. -/
def appInfo (P : Program) (e : TypeId) : Option (Nat × Nat) := match P.info? e with
  | some inf => match inf.zero with
    | some z => bif Nat.beq z.cells.size inf.size && Nat.blt 0 inf.size then some (inf.size, inf.bytes) else none
    | none => none
  | none => none
def appOp (P : Program) (n : Nat) (ops : Array Oper) (l : List (Nat × Value)) (i : Nat) : Option (Nat × TypeId × Value × Nat × Nat × Nat) :=
  match theOp ops l i with
  | some { dst := some d, op := .call { callee := .builtin .append, args := ags, argTypes := ts }, .. } =>
    match (ts[0]? : Option TypeId), (ts[1]? : Option TypeId), ((ags.map (evL l))[0]? : Option Value), ((ags.map (evL l))[1]? : Option Value) with
    | some t, some t', some v, some (Value.slice (some ⟨b, o, none⟩) m _) => match P.underlying t with
      | some (TypeDesc.slice e) => bif Nat.blt d n && Nat.beq t t' && Nat.beq ts.size 2 && Nat.beq ags.size 2 then some (d, e, v, b, o, m) else none
      | _ => none
    | _, _, _, _ => none
  | _ => none
theorem arr2 {α : Type} {a : Array α} {x y : α} (hs : a.size = 2) (h0 : a[0]? = some x) (h1 : a[1]? = some y) : a = #[x, y] := by
  apply Array.ext_getElem?
  intro j
  match j with
  | 0 => simpa using h0
  | 1 => simpa using h1
  | j + 2 => rw [Array.getElem?_eq_none (by omega), Array.getElem?_eq_none (by simp)]
theorem V1_append {d e b o m size bytes : Nat} {v : Value} (h : appOp P n ops l i = some (d, e, v, b, o, m)) (hi : appInfo P e = some (size, bytes)) (base nn : Nat) (xs news : List Value) (hown : w.ownsRow base e size v nn xs)
    (hl : news.length = m * size) (hnews : ∀ j u, news[j]? = some u → w.cell? ⟨b, o + j, none⟩ = some u) (h1 : ∀ u ∈ news, oneC u = true) (h63 : nn + m ≤ maxLen) (hbytes : (nn + m) * bytes ≤ 140737488355328) (hbase : base ≤ w.heap.size)
    (next : ∀ v' w', w'.ownsRow base e size v' (nn + m) (xs ++ news) → w.grownBy w' v.ownBlock → K ((d, v') :: l) w') : V1 r n ds P ops Q i l w K := by
  unfold appInfo at hi
  split at hi
  · rename_i inf hinf
    split at hi
    · rename_i z hz
      cases hb : Nat.beq z.cells.size inf.size && Nat.blt 0 inf.size with
      | false => rw [hb] at hi; cases hi
      | true =>
        rw [hb] at hi
        simp only [cond_true, Option.some.injEq, Prod.mk.injEq] at hi
        obtain ⟨hsz, hby⟩ := hi
        simp only [Bool.and_eq_true] at hb
        have hzs := Nat.eq_of_beq_eq_true hb.1
        have hpos := blt_spec hb.2
        unfold appOp at h
        split at h
        · rename_i _ d' ags ts ty pos aft gd ho
          split at h
          · rename_i t t' v' b' o' m' c' h0 h1' hv hx
            split at h
            · rename_i e' hu
              cases hq : Nat.blt d' n && Nat.beq t t' && Nat.beq ts.size 2 && Nat.beq ags.size 2 with
              | false => rw [hq] at h; cases h
              | true =>
                rw [hq] at h
                simp only [cond_true, Option.some.injEq, Prod.mk.injEq] at h
                obtain ⟨rfl, rfl, rfl, rfl, rfl, rfl⟩ := h
                simp only [Bool.and_eq_true] at hq
                obtain ⟨⟨⟨q1, q2⟩, q3⟩, q4⟩ := hq
                have q2 := Nat.eq_of_beq_eq_true q2
                subst q2
                have hts := arr2 (Nat.eq_of_beq_eq_true q3) h0 h1'
                have has := arr2 (by simpa using Nat.eq_of_beq_eq_true q4) hv hx
                obtain ⟨v2, w2, hr, hr1, hr2, _⟩ := run_append_own (P := P) w base t ty e' inf z size bytes hu hinf hz hsz hby (by rw [hzs, hsz]) (by omega) v' nn xs hown ⟨b', o', none⟩ m' c' news hl (fun j u hj => by rw [add_none]; exact hnews j u hj) (fun u hu => oneC_oneCell (h1 u hu)) h63 hbytes hbase
                refine V1_value ho rfl q1 ?_ (next v2 w2 hr1 hr2)
                simp only [execOp, resolve, invoke, builtin, Sem.run_bind, Sem.run_pure, Result.andThen_ok, has, hts, hr]
            · cases h
          · cases h
        · cases h
    · cases hi
  · cases hi
theorem VL_append {d e b o m size bytes : Nat} {v : Value} (h : appOp P n ops l i = some (d, e, v, b, o, m)) (hi' : Nat.blt i ops.size = true) (hi : appInfo P e = some (size, bytes)) (base nn : Nat) (xs news : List Value) (hown : w.ownsRow base e size v nn xs)
    (hl : news.length = m * size) (hnews : ∀ j u, news[j]? = some u → w.cell? ⟨b, o + j, none⟩ = some u) (h1 : ∀ u ∈ news, oneC u = true) (h63 : nn + m ≤ maxLen) (hbytes : (nn + m) * bytes ≤ 140737488355328) (hbase : base ≤ w.heap.size)
    (next : ∀ v' w', w'.ownsRow base e size v' (nn + m) (xs ++ news) → w.grownBy w' v.ownBlock → VL r n ds P ops Q (i + 1) ((d, v') :: l) w') : VL r n ds P ops Q i l w :=
  VL_of_V1 hi' (V1_append h hi base nn xs news hown hl hnews h1 h63 hbytes hbase next)
theorem own_cells {b : Nat} {c : Array Value} {e : TypeId} (h : Own w b c e) : ∀ j u, c.toList[j]? = some u → w.cell? ⟨b, 0 + j, none⟩ = some u := fun j u hj => (h.cell (0 + j)).trans (by rw [Nat.zero_add]; simpa using hj)
/-- A row's step, seen from a world in which the row is not yet. -/
theorem row_step {w0 w w' : World} {base e size nn : Nat} {v : Value} {xs : List Value} (hs : Step No w0 w) (h : w.ownsRow base e size v nn xs) (hb : w0.heap.size ≤ base) (hg : w.grownBy w' v.ownBlock) : Step No w0 w' :=
  Step.transNew (G := fun k => v.ownBlock = some k) hs (Step.of_grown hg fun k hk _ => hk) fun i hi hk => by have := (h.lt i hk).1; omega
theorem own_row {w w' : World} {base e size nn b : Nat} {v : Value} {xs : List Value} {c : Array Value} {T : TypeId} (ho : Own w b c T) (h : w.ownsRow base e size v nn xs) (hb : b < base) (hg : w.grownBy w' v.ownBlock) : Own w' b c T :=
  ho.step (F := fun k => v.ownBlock = some k) (Step.of_grown hg fun k hk _ => hk) (fun hk => by have := (h.lt b hk).1; omega)
theorem row_no {w w' : World} {base e size nn : Nat} {v : Value} {xs : List Value} (h : w.ownsRow base e size v nn xs) (hs : Step No w w') : w'.ownsRow base e size v nn xs := by
  refine ⟨h.1, ?_⟩
  rcases h.2 with hn | ⟨g, cap, cur, hv, hb, hg, rest⟩
  · exact .inl hn
  · exact .inr ⟨g, cap, cur, hv, hb, (hs.block g (Array.getElem?_eq_some_iff.1 hg).1 id).trans hg, rest⟩
end
end Go.Vc
