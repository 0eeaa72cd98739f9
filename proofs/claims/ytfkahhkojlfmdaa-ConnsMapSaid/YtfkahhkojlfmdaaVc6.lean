/- The rows: what a law's arguments are as values, and how a law's row is closed once its call is known to answer true and to leave old memory alone. -/
import Derived.Test.YtfkahhkojlfmdaaVc5
import Derived.ProofKit
set_option linter.unusedVariables false
set_option linter.unusedSimpArgs false
namespace Go.Vc
open Go.RowKit Go.ChangeShapes Go.WideShapes Go.ChangeAt

/-! ### 1. Flat types: numbers and bools, in structs and arrays -/
def Leaf.hasW : Leaf → Value → Prop
  | .int k, v => ∃ a, v = .int k a ∧ (Lit.int k a).wf = true
  | .bool, v => ∃ b, v = .bool b
def CellsW : List Value → List Leaf → Prop
  | [], [] => True
  | v :: vs, k :: ks => k.hasW v ∧ CellsW vs ks
  | _, _ => False
theorem CellsW.are {vs : List Value} {ks : List Leaf} (h : CellsW vs ks) : CellsAre vs ks := by
  induction vs generalizing ks with
  | nil => cases ks with
    | nil => trivial
    | cons => exact h.elim
  | cons v vs ih => cases ks with
    | nil => exact h.elim
    | cons k ks =>
      refine ⟨?_, ih h.2⟩
      have := h.1
      cases k with
      | int k => obtain ⟨a, h1, _⟩ := this; exact ⟨a, h1⟩
      | bool => exact this
theorem CellsW.length {vs : List Value} {ks : List Leaf} (h : CellsW vs ks) : vs.length = ks.length := h.are.length
theorem CellsW.append {a b : List Value} {ka kb : List Leaf} (h : CellsW a ka) (h' : CellsW b kb) : CellsW (a ++ b) (ka ++ kb) := by
  induction a generalizing ka with
  | nil => cases ka with
    | nil => exact h'
    | cons => exact h.elim
  | cons v vs ih => cases ka with
    | nil => exact h.elim
    | cons k ks => exact ⟨h.1, ih h.2⟩
theorem mapM_mem {α β : Type} {f : α → Option β} {l : List α} {ys : List β} (h : l.mapM f = some ys) : ∀ x ∈ l, ∃ y, f x = some y := by
  induction l generalizing ys with
  | nil => intro x hx; cases hx
  | cons a r ih =>
    rw [List.mapM_cons] at h
    cases ha : f a with
    | none => rw [ha] at h; cases h
    | some y =>
      rw [ha] at h
      cases hr : r.mapM f with
      | none => rw [hr] at h; cases h
      | some zs =>
        intro x hx
        rcases List.mem_cons.1 hx with rfl | hx
        · exact ⟨y, ha⟩
        · exact ih hr x hx
theorem mapM_get {α β : Type} {f : α → Option β} {l : List α} {ys : List β} (h : l.mapM f = some ys) : ys.length = l.length ∧ ∀ (j : Nat) (x : α), l[j]? = some x → ∃ y, f x = some y ∧ ys[j]? = some y := by
  induction l generalizing ys with
  | nil =>
    simp only [List.mapM_nil] at h
    cases h
    exact ⟨rfl, fun j x hx => by simp at hx⟩
  | cons a r ih =>
    rw [List.mapM_cons] at h
    cases ha : f a with
    | none => rw [ha] at h; cases h
    | some y =>
      rw [ha] at h
      cases hr : r.mapM f with
      | none => rw [hr] at h; cases h
      | some zs =>
        rw [hr] at h
        cases h
        obtain ⟨h1, h2⟩ := ih hr
        refine ⟨by simp [h1], fun j x hx => ?_⟩
        cases j with
        | zero => simp at hx; subst hx; exact ⟨y, ha, rfl⟩
        | succ j => simp at hx; simpa using h2 j x hx

section
variable {H : Type} {enc : TypeId × Value → H} {P : Program} {w : World} {base : Nat} {spare : Nat → Bool} {held : Bool}

theorem fields_flat {dd : Nat} {cs : List Value} {fuel : Nat} (ih : ∀ t ls cs fuel x, leaves P dd t = some ls → (P.info? t).map (·.size) = some ls.length → DataW.trod enc P w base spare held fuel t cs = some x → CellsW cs ls) (fs : List Field) :
    ∀ (off : Nat) (ls : List Leaf), fieldLeaves P (leaves P dd) fs off = some ls → (∀ f ∈ fs, ∃ x, DataW.trod enc P w base spare held fuel f.type ((cs.drop f.offset).take (P.cellsOf f.type)) = some x) → CellsW ((cs.drop off).take ls.length) ls := by
  induction fs with
  | nil => intro off ls h _; simp only [fieldLeaves, Option.some.injEq] at h; subst h; exact trivial
  | cons f fs ihf =>
    intro off ls h hx
    simp only [fieldLeaves] at h
    cases hl : leaves P dd f.type with
    | none => rw [hl] at h; cases h
    | some lf =>
      cases hs : (P.info? f.type).map (·.size) with
      | none => rw [hl, hs] at h; cases h
      | some sz =>
        rw [hl, hs] at h
        simp only at h
        cases hc : Nat.beq lf.length sz && Nat.beq f.offset off && !(f.name == "_") with
        | false => rw [hc] at h; cases h
        | true =>
          rw [hc] at h
          simp only [cond_true] at h
          simp only [Bool.and_eq_true] at hc
          have c1 := Nat.eq_of_beq_eq_true hc.1.1
          have c2 := Nat.eq_of_beq_eq_true hc.1.2
          cases hr : fieldLeaves P (leaves P dd) fs (off + sz) with
          | none => rw [hr] at h; cases h
          | some lr =>
            rw [hr] at h
            simp only [Option.some.injEq] at h
            subst h
            obtain ⟨x, hx1⟩ := hx f (List.mem_cons_self ..)
            have hco : P.cellsOf f.type = sz := by unfold Program.cellsOf; rw [hs]; rfl
            have h1 := ih f.type lf _ fuel x hl (by rw [hs, c1]) hx1
            rw [hco, c2] at h1
            have h2 := ihf (off + sz) lr hr fun g hg => hx g (List.mem_cons_of_mem _ hg)
            have e : (cs.drop off).take (lf ++ lr).length = (cs.drop off).take sz ++ (cs.drop (off + sz)).take lr.length := by
              rw [List.length_append, c1, List.take_add, List.drop_drop]
            rw [e]
            exact h1.append h2

theorem elems_flat {cs : List Value} {ls : List Leaf} {sz : Nat} (hsz : ls.length = sz) (k : Nat) : ∀ i, (∀ j, j < k → CellsW ((cs.drop ((i + j) * sz)).take sz) ls) → CellsW ((cs.drop (i * sz)).take (k * sz)) (rep k ls) := by
  induction k with
  | zero => intro i _; simp [rep, CellsW]
  | succ k ih =>
    intro i h
    have h0 := h 0 (by omega)
    rw [Nat.add_zero] at h0
    have h1 := ih (i + 1) fun j hj => by have := h (j + 1) (by omega); rwa [show i + (j + 1) = i + 1 + j by omega] at this
    simp only [rep]
    have e : (cs.drop (i * sz)).take ((k + 1) * sz) = (cs.drop (i * sz)).take sz ++ (cs.drop ((i + 1) * sz)).take (k * sz) := by
      rw [show (k + 1) * sz = sz + k * sz by rw [Nat.succ_mul]; omega, List.take_add, List.drop_drop, show i * sz + sz = (i + 1) * sz by rw [Nat.succ_mul]]
    rw [e]
    exact h0.append h1

theorem trod_flat (dd : Nat) : ∀ t ls cs fuel x, leaves P dd t = some ls → (P.info? t).map (·.size) = some ls.length → DataW.trod enc P w base spare held fuel t cs = some x → CellsW cs ls := by
  induction dd with
  | zero => intro t ls cs fuel x h; cases h
  | succ dd ih =>
    intro t ls cs fuel x h hsz hx
    cases fuel with
    | zero => cases hx
    | succ fuel =>
      have hco : P.cellsOf t = ls.length := by unfold Program.cellsOf; rw [hsz]; rfl
      simp only [leaves] at h
      simp only [DataW.trod] at hx
      cases hu : P.underlying t with
      | none => rw [hu] at h; cases h
      | some ud =>
        rw [hu] at h hx
        cases ud <;> simp only [reduceCtorEq, Option.some.injEq] at h
        case bool =>
          subst h
          match cs, hx with
          | [.bool b], _ => exact ⟨⟨b, rfl⟩, trivial⟩
        case int k =>
          subst h
          match cs, hx with
          | [.int k' n], hx =>
            simp only at hx
            split at hx
            · rename_i hc
              obtain ⟨rfl, hw⟩ := hc
              exact ⟨⟨n, rfl, hw⟩, trivial⟩
            · cases hx
        case struct fs =>
          cases hst : P.stoodInHeld t with
          | true => rw [hst] at h; cases h
          | false =>
            rw [hst] at h
            simp only [cond_false] at h
            simp only at hx
            split at hx
            · rename_i hlen
              obtain ⟨ys, hys, _⟩ := Option.map_eq_some_iff.1 hx
              have := fields_flat (cs := cs) (fuel := fuel) ih fs.toList 0 ls h fun f hf => mapM_mem hys f hf
              rw [List.drop_zero, ← hco, ← hlen, List.take_length] at this
              exact this
            · cases hx
        case array len elem =>
          cases hle : leaves P dd elem with
          | none => rw [hle] at h; cases h
          | some le =>
            cases hs : (P.info? elem).map (·.size) with
            | none => rw [hle, hs] at h; cases h
            | some sz =>
              rw [hle, hs] at h
              simp only at h
              cases hc : Nat.beq le.length sz with
              | false => rw [hc] at h; cases h
              | true =>
                rw [hc] at h
                simp only [cond_true, Option.some.injEq] at h
                subst h
                have hc := Nat.eq_of_beq_eq_true hc
                have hce : P.cellsOf elem = sz := by unfold Program.cellsOf; rw [hs]; rfl
                simp only at hx
                split at hx
                · rename_i hlen
                  obtain ⟨ys, hys, _⟩ := Option.map_eq_some_iff.1 hx
                  have := elems_flat (cs := cs) hc len 0 fun j hj => by
                    obtain ⟨y, hy⟩ := mapM_mem hys j (List.mem_range.2 hj)
                    rw [hce] at hy
                    rw [Nat.zero_add]
                    exact ih elem le _ fuel y hle (by rw [hs, hc]) hy
                  have hl2 : (rep len le).length = len * sz := by
                    clear this hys hx hlen hsz hco hu
                    induction len with
                    | zero => simp [rep]
                    | succ n ihn => simp [rep, ihn, hc, Nat.succ_mul, Nat.add_comm]
                  rw [Nat.zero_mul, List.drop_zero, ← hl2, ← hco, ← hlen, List.take_length] at this
                  exact this
                · cases hx

/-- A struct or an array by value. -/
theorem open_agg {rr : Reach} {b0 : Nat} {t : TypeId} {dd : Nat} {ls : List Leaf} {v : Value} {d : DataW H} {ps : List MemPlace} (hag : isAggB P t = true) (hval : Value.okWide P w rr b0 t v) (hl : leaves P dd t = some ls) (hsz : (P.info? t).map (·.size) = some ls.length)
    (h : DataW.Trod enc P w base spare held t v d ps) : ∃ cs, v = .agg cs ∧ CellsW cs.toList ls := by
  obtain ⟨f, hf⟩ := h
  have hv : ∃ cs, v = .agg cs := by
    unfold isAggB at hag
    unfold Value.okWide at hval
    cases hu : P.underlying t with
    | none => rw [hu] at hag; cases hag
    | some u =>
      rw [hu] at hag hval
      cases u <;> simp at hag
      · obtain ⟨cs, rfl, _⟩ := hval; exact ⟨cs, rfl⟩
      · obtain ⟨cs, rfl, _⟩ := hval; exact ⟨cs, rfl⟩
  obtain ⟨cs, rfl⟩ := hv
  exact ⟨cs, rfl, trod_flat dd t ls _ f _ hl hsz hf⟩

/-- A slice of a flat type. -/
def FlatSl (w : World) (A : Option Addr) (n sz : Nat) (ls : List Leaf) : Prop := 0 < n → ∃ b o, A = some ⟨b, o, none⟩ ∧ b < w.heap.size ∧ ∀ i, i < n → ∃ cs, CellsW cs ls ∧ ∀ j, j < sz → w.cell? ⟨b, o + i * sz + j, none⟩ = cs[j]?

theorem open_flat {t e : TypeId} {dd : Nat} {ls : List Leaf} {v : Value} {d : DataW H} {ps : List MemPlace} (ht : P.underlying t = some (.slice e)) (hl : leaves P dd e = some ls) (hsz : (P.info? e).map (·.size) = some ls.length) (hpos : 0 < ls.length)
    {rr : Reach} {b0 : Nat} (hval : Value.okWide P w rr b0 t v) (h : DataW.Trod enc P w 0 spare held t v d ps) : ∃ A n c, v = .slice A n c ∧ n ≤ c ∧ c ≤ maxLen ∧ FlatSl w A n ls.length ls := by
  obtain ⟨f, hf⟩ := h
  obtain ⟨A0, n0, c0, rfl⟩ := okWide_slice ht hval
  have hv : (Value.slice A0 n0 c0).cells.toList = [.slice A0 n0 c0] := rfl
  rw [hv] at hf
  have hce : P.cellsOf e = ls.length := by unfold Program.cellsOf; rw [hsz]; rfl
  cases f with
  | zero => cases hf
  | succ f =>
    simp only [DataW.trod, ht] at hf
    obtain ⟨A, n, c, hAe⟩ : ∃ A n c, Value.slice A0 n0 c0 = Value.slice A n c := ⟨_, _, _, rfl⟩
    rw [hAe] at hf ⊢
    clear hv hval hAe
    · cases A with
      | none =>
        match n, c, hf with
        | 0, 0, _ => exact ⟨none, 0, 0, rfl, Nat.le_refl _, by simp [maxLen], fun h0 => absurd h0 (by omega)⟩
      | some a =>
        simp only at hf
        split at hf
        · rename_i hb
          obtain ⟨elems, hel, _⟩ := Option.bind_eq_some_iff.1 hf
          refine ⟨some a, n, c, rfl, hb.2.1, hb.2.2, fun h0 => ?_⟩
          have key : ∀ i, i < n → ∃ cs x, w.cells? 0 (a.add (i * ls.length)) ls.length = some cs ∧ DataW.trod enc P w 0 spare held f e cs = some x := by
            intro i hi
            obtain ⟨y, hy⟩ := mapM_mem hel i (List.mem_range.2 hi)
            obtain ⟨cs, h1, h2⟩ := Option.bind_eq_some_iff.1 hy
            rw [hce] at h1
            exact ⟨cs, y, h1, h2⟩
          have cellsAt : ∀ i, i < n → ∃ cs, CellsW cs ls ∧ ∀ j, j < ls.length → w.cell? ((a.add (i * ls.length)).add j) = cs[j]? := by
            intro i hi
            obtain ⟨cs, x, h1, h2⟩ := key i hi
            refine ⟨cs, trod_flat dd e ls cs f x hl hsz h2, fun j hj => ?_⟩
            unfold World.cells? at h1
            split at h1
            · obtain ⟨_, h4⟩ := mapM_get h1
              obtain ⟨y, h5, h6⟩ := h4 j j (List.getElem?_range hj)
              rw [h5, h6]
            · cases h1
          -- the address is plain: a cell is read there
          obtain ⟨cs0, hw0, hc0⟩ := cellsAt 0 h0
          have hl0 := hw0.length
          have h00 := hc0 0 hpos
          rw [Nat.zero_mul, show (a.add 0) = a from rfl, show (a.add 0) = a from rfl, List.getElem?_eq_getElem (by omega)] at h00
          have hsp : a.spot = none := by
            unfold World.cell? at h00
            split at h00
            · cases hs : a.spot with
              | none => rfl
              | some x => rw [hs] at h00; simp at h00
            · cases h00
          obtain ⟨b, o, sp⟩ := a
          simp only at hsp
          subst hsp
          refine ⟨b, o, rfl, World.block_lt_of_cell? w _ h00, fun i hi => ?_⟩
          obtain ⟨cs, hw, hc⟩ := cellsAt i hi
          refine ⟨cs, hw, fun j hj => ?_⟩
          have := hc j hj
          rwa [add_none, add_none] at this
        · cases hf

/-! ### 2. Closing a law's row -/
theorem trodAll_stays {ts : List TypeId} (hl : laidOutB P = true) (hts : ∀ t ∈ ts, P.readableRec t = true ∧ t < P.types.size) {W W' : World} (hb : Below W.heap.size W W') : ∀ {vs : List Value} {ds : List (DataW H)} {ps : List MemPlace},
    DataW.TrodAll enc P W 0 (fun _ => true) true ts vs ds ps → (∀ x ∈ ps, x.block < W.heap.size) → DataW.TrodAll enc P W' 0 (fun b => decide (b < W.heap.size)) true ts vs ds ps := by
  induction ts with
  | nil => intro vs ds ps h _; cases vs <;> cases ds <;> simp_all [DataW.TrodAll]
  | cons t ts ih =>
    intro vs ds ps h hlt
    cases vs with
    | nil => cases ds <;> exact h.elim
    | cons v vs => cases ds with
      | nil => exact h.elim
      | cons d ds =>
        obtain ⟨p, q, h1, h2, rfl⟩ := h
        have ht := hts t (List.mem_cons_self ..)
        exact ⟨p, q, Below.trod hl ht.1 ht.2 h1 hb fun x hx => hlt x (List.mem_append_left _ hx), ih (fun t' h' => hts t' (List.mem_cons_of_mem _ h')) h2 fun x hx => hlt x (List.mem_append_right _ hx), rfl⟩

theorem post_law {f : Func} {s : ChangeSpec} {W W' : World} {args : Array Value} {ds gs : List (DataW H)} {before : List MemPlace} {tb : TypeId} (hl : laidOutB P = true) (hts : ∀ t ∈ f.params.toList, P.readableRec t = true ∧ t < P.types.size)
    (hW : DataW.Whole enc P f.params.toList s.vars false W args.toList ds gs before) (hv : s.vars = []) (hr : f.resultTypes = #[tb]) (htb : P.underlying tb = some .bool)
    (hres : (s.fn H (ds ++ [])).results = [.lit (.bool true)]) (hargs : (s.fn H (ds ++ [])).args = ds) (hvs : (s.fn H (ds ++ [])).vars = []) (hs : Step No W W') : s.post enc P f false true false false W args (.bool true) W' := by
  have hlt := hW.lt
  obtain ⟨p, q, hA, hV, rfl, hfz, hnd⟩ := hW
  have hV0 := hV
  rw [hv] at hV
  obtain ⟨rfl, rfl⟩ := trodVars_none hV
  refine ⟨ds, [], p ++ [], [], p, [], ⟨p, [], hA, hV0, rfl, hfz, hnd⟩, ?_, ?_, ?_, ?_, fun h => by cases h⟩
  · rw [hr, hres]
    exact ⟨[], [], ⟨1, by simp [DataW.trod, Value.cells, htb]⟩, rfl, rfl⟩
  · rw [hargs]
    exact trodAll_stays hl hts hs.below hA fun x hx => hlt x (List.mem_append_left _ hx)
  · rw [hv, hvs]; rfl
  · exact hs.below.frame _
end
end Go.Vc
