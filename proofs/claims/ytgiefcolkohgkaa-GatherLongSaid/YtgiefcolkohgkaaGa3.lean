/- Layer 11: parts that are handed in; gathers that take them. -/
import Derived.Test.YtgiefcolkohgkaaGa2
import Derived.Test.YtgiefcolkohgkaaVc6
set_option linter.unusedVariables false
set_option linter.unusedSimpArgs false
namespace Go.Vc
open Go.RowKit
theorem setRow_full {c cs : Array Value} (h : c.size = cs.size) : setRow c 0 cs.toList = cs := by
  apply Array.toList_inj.1
  rw [setRow_putL _ _ _ (by simp; omega)]
  unfold putL
  rw [List.take_zero, List.nil_append, List.drop_of_length_le (by simp; omega), List.append_nil]
section
variable {r : Option Nat} {n : Nat} {ds : List Deferred} {P : Program} {ops : Array Oper} {Q : Exit → Act → World → Prop} {l : List (Nat × Value)} {w : World} {i : Nat}
theorem VL_storeW {b sz : Nat} {c cs : Array Value} {e : TypeId} (h : storeOpA P ops l i = some (sz, b, 0, .agg cs)) (hi : Nat.blt i ops.size = true) (hone : ∀ u ∈ cs.toList, oneC u = true) (hv : cs.size = sz) (hB : Own w b c e) (hsz : c.size = sz) (next : ∀ w1, Wr w w1 b cs e → VL r n ds P ops Q (i + 1) l w1) : VL r n ds P ops Q i l w :=
  VL_of_V1 hi (V1_storeA h hone hv hB (by omega) fun w1 hw => next w1 (by
    have := setRow_full (c := c) (cs := cs) (by omega)
    simp only [Value.cells] at hw
    rwa [this] at hw))
end
end Go.Vc
namespace Go.Proofs.Ytgiefcolkohgkaa
open Go.Vc Go.RowKit
structure Pa where
  t : Int
  ps : List Int
  last : Bool
  tick : Bool
def paL (x : Pa) : List Value := .int .i64 x.t :: (iL .u8 x.ps ++ [.bool x.last, .bool x.tick])
def paC (x : Pa) : Array Value := (paL x).toArray
def pa0 : Pa := ⟨0, List.replicate 48 0, false, false⟩
def PaI (x : Pa) : Prop := x.ps.length = 48 ∧ Bytes x.ps
theorem pa0_I : PaI pa0 := ⟨by simp [pa0], fun x hx => by have := List.eq_of_mem_replicate hx; omega⟩
theorem paL_len {x : Pa} (h : PaI x) : (paL x).length = 51 := by simp [paL, h.1]
theorem paC_size {x : Pa} (h : PaI x) : (paC x).size = 51 := by simp [paC, paL_len h]
theorem pa_one {x : Pa} : ∀ u ∈ (paC x).toList, oneC u = true := by
  intro u hu
  simp only [paC, paL, List.mem_cons, List.mem_append, List.mem_nil_iff, or_false] at hu
  rcases hu with rfl | hu | rfl | rfl
  · rfl
  · exact iL_one _ hu
  · rfl
  · rfl
theorem paC_0 (x : Pa) : (paC x)[0]? = some (.int .i64 x.t) := by simp [paC, paL]
theorem paC_1 {x : Pa} (h : PaI x) (j : Nat) (hj : j < 48) : (paC x)[1 + j]? = some (.int .u8 (x.ps.getD j 0)) := by
  have hl := h.1
  simp only [paC, paL, List.getElem?_toArray]
  rw [show 1 + j = j + 1 by omega, List.getElem?_cons_succ, List.getElem?_append_left (by rw [iL_length]; omega), iL_get j (by omega)]
theorem paC_49 {x : Pa} (h : PaI x) : (paC x)[49]? = some (.bool x.last) := by
  have hl := h.1
  simp only [paC, paL, List.getElem?_toArray]
  rw [show 49 = 48 + 1 by omega, List.getElem?_cons_succ, List.getElem?_append_right (by rw [iL_length]; omega), iL_length, hl]; rfl
theorem paC_50 {x : Pa} (h : PaI x) : (paC x)[50]? = some (.bool x.tick) := by
  have hl := h.1
  simp only [paC, paL, List.getElem?_toArray]
  rw [show 50 = 49 + 1 by omega, List.getElem?_cons_succ, List.getElem?_append_right (by rw [iL_length]; omega), iL_length, hl]; rfl
section
variable {w w1 : World} {b T : Nat} {x y : Pa} {P : Program} {t : TypeId}
theorem pa_t (ho : Own w b (paC x) T) (ht : oneB P t = true) : Loads P t w ⟨b, 0, none⟩ (.int .i64 x.t) := Loads.one ht (by rw [ho.cell, paC_0])
theorem pa_ps (ho : Own w b (paC x) T) (hx : PaI x) (ht : aggB P t = some 48) : Loads P t w ⟨b, 1, none⟩ (.agg (iA .u8 x.ps)) := by
  have hl := hx.1
  refine Loads.cells ht _ (by simp [hl]) fun j hj => ?_
  rw [add_none, ho.cell, paC_1 hx j hj, iA_get j (by omega)]
theorem pa_last (ho : Own w b (paC x) T) (hx : PaI x) (ht : oneB P t = true) : Loads P t w ⟨b, 49, none⟩ (.bool x.last) := Loads.one ht (by rw [ho.cell, paC_49 hx])
theorem pa_tick (ho : Own w b (paC x) T) (hx : PaI x) (ht : oneB P t = true) : Loads P t w ⟨b, 50, none⟩ (.bool x.tick) := Loads.one ht (by rw [ho.cell, paC_50 hx])
theorem pa_slx (ho : Own w b (paC x) T) (hx : PaI x) : SlX w T (fun _ => True) (some ⟨b, 1, none⟩) (iL .u8 x.ps) := by
  intro h0
  refine ⟨b, 1, rfl, trivial, ⟨_, _, ho⟩, fun j u hu => ?_⟩
  have hl := hx.1
  have hj : j < x.ps.length := by simpa using (List.getElem?_eq_some_iff.1 hu).1
  rw [ho.cell, paC_1 hx j (by omega), ← hu, iL_get j hj]
theorem pa_put (hx : PaI x) (hy : PaI y) : setRow (paC x) 0 (paL y) = paC y := by
  apply Array.toList_inj.1
  have h1 := paL_len hx
  have h2 := paL_len hy
  rw [setRow_putL _ _ _ (by simp [paC, h1, h2])]
  unfold putL
  rw [List.take_zero, List.nil_append, List.drop_of_length_le (by simp [paC, h1, h2]), List.append_nil]
  rfl
theorem pa_fits (hx : PaI x) (hy : PaI y) : 0 + (paL y).length ≤ (paC x).size := by rw [paL_len hy]; simp [paC, paL_len hx]
end
def PasB (w : World) (b o n : Nat) (q : Nat → Pa) : Prop := ∀ i, i < n → ∀ j, j < 51 → w.cell? ⟨b, o + i * 51 + j, none⟩ = (paL (q i))[j]?
def PasAt (w : World) (A : Option Addr) (n : Nat) (q : Nat → Pa) : Prop := (∀ i, PaI (q i)) ∧ (0 < n → ∃ b o, A = some ⟨b, o, none⟩ ∧ b < w.heap.size ∧ PasB w b o n q)
theorem PasB.ld {w w1 : World} {b o n : Nat} {q : Nat → Pa} (h : PasB w b o n q) (hq : ∀ i, PaI (q i)) (hs : Step No w w1) {P : Program} {t : TypeId} (ht : aggB P t = some 51) (i : Nat) (hi : i < n) : Loads P t w1 ⟨b, o + i * 51, none⟩ (.agg (paC (q i))) := by
  have hl := paL_len (hq i)
  refine Loads.cells ht _ (by simp [paC, hl]) fun j hj => ?_
  rw [add_none]
  have := h i hi j hj
  rw [List.getElem?_eq_getElem (by omega)] at this
  have h2 := hs.cell id this
  rw [h2]
  simp only [paC, List.getElem?_toArray]
  rw [List.getElem?_eq_getElem (by omega)]
theorem u8s_of {vs : List Value} (m : Nat) (h : CellsW vs (rep m [.int .u8])) : ∃ bs : List Int, vs = iL .u8 bs ∧ bs.length = m ∧ Bytes bs := by
  induction m generalizing vs with
  | zero =>
    cases vs with
    | nil => exact ⟨[], rfl, rfl, Bytes.nil⟩
    | cons v r => exact h.elim
  | succ m ih =>
    cases vs with
    | nil => exact h.elim
    | cons v r =>
      obtain ⟨⟨x, rfl, hx⟩, h2⟩ := h
      obtain ⟨bs, rfl, hl, hb⟩ := ih h2
      have h0 : IntKind.u8.min = 0 := rfl
      have h1 : IntKind.u8.max = 255 := rfl
      simp [Lit.wf] at hx
      exact ⟨x :: bs, rfl, by simp [hl], Bytes.cons (by omega) hb⟩
theorem cw_split {vs : List Value} {ka kb : List Leaf} (h : CellsW vs (ka ++ kb)) : ∃ xs ys, vs = xs ++ ys ∧ CellsW xs ka ∧ CellsW ys kb := by
  induction ka generalizing vs with
  | nil => exact ⟨[], vs, rfl, trivial, h⟩
  | cons k ks ih =>
    cases vs with
    | nil => exact h.elim
    | cons v vs =>
      obtain ⟨xs, ys, rfl, h1, h2⟩ := ih h.2
      exact ⟨v :: xs, ys, rfl, ⟨h.1, h1⟩, h2⟩
theorem cw_nil {vs : List Value} (h : CellsW vs []) : vs = [] := by
  cases vs with
  | nil => rfl
  | cons v r => exact h.elim
theorem cw_one {vs : List Value} {k : Leaf} (h : CellsW vs [k]) : ∃ v, vs = [v] ∧ Leaf.hasW k v := by
  cases vs with
  | nil => exact h.elim
  | cons v r => exact ⟨v, by rw [cw_nil h.2], h.1⟩
abbrev paLs : List Leaf := ([.int .i64] ++ (rep 48 [.int .u8]) ++ [.bool] ++ [.bool] ++ [])
theorem pa_of {vs : List Value} (h : CellsW vs paLs) : ∃ x : Pa, vs = paL x ∧ PaI x := by
  obtain ⟨u1, v2, rfl, g1, h2⟩ := cw_split h
  obtain ⟨u2, v3, rfl, g2, h3⟩ := cw_split g1
  obtain ⟨u3, v4, rfl, g3, h4⟩ := cw_split g2
  obtain ⟨u4, v5, rfl, g4, h5⟩ := cw_split g3
  obtain ⟨bs, rfl, hl, hb⟩ := u8s_of 48 h5
  obtain ⟨a, rfl, x, rfl, _⟩ := cw_one g4
  obtain ⟨d, rfl, y, rfl⟩ := cw_one h4
  obtain ⟨f, rfl, z, rfl⟩ := cw_one h3
  obtain rfl := cw_nil h2
  exact ⟨⟨x, bs, y, z⟩, by simp [paL], hl, hb⟩
theorem PasAt.of_flat {w : World} {A : Option Addr} {n : Nat} (h : FlatSl w A n 51 paLs) : ∃ q, PasAt w A n q := by
  by_cases hn : 0 < n
  · obtain ⟨b, o, rfl, hb, hc⟩ := h hn
    have hex : ∀ i, ∃ q : Pa, PaI q ∧ (i < n → ∀ j, j < 51 → w.cell? ⟨b, o + i * 51 + j, none⟩ = (paL q)[j]?) := by
      intro i
      by_cases hi : i < n
      · obtain ⟨cs, hw, hr⟩ := hc i hi
        obtain ⟨x, rfl, hx⟩ := pa_of hw
        exact ⟨x, hx, fun _ => hr⟩
      · exact ⟨pa0, pa0_I, fun h => absurd h hi⟩
    obtain ⟨q, hq⟩ := Classical.axiomOfChoice hex
    exact ⟨q, fun i => (hq i).1, fun _ => ⟨b, o, rfl, hb, fun i hi => (hq i).2 hi⟩⟩
  · exact ⟨fun _ => pa0, fun _ => pa0_I, fun h0 => absurd h0 hn⟩
theorem GaI.len_le {g : Ga} {k : Nat} (h : GaI g k) : g.bs.length ≤ 960 := by obtain ⟨m, hm, hl⟩ := h.len; omega
theorem SlX_ga {w w' : World} {e T p : Nat} {X Y : Nat → Prop} {A : Option Addr} {xs : List Value} {g : Ga} (h : SlX w e X A xs) (hg : GaOf w T p Y g) (hne : e ≠ T) (hs : Step (Just p) w w') : SlX w' e X A xs := by
  obtain ⟨A, c, ho, hv, hc⟩ := hg
  exact h.own ho hne hs
theorem parts_eq {g : Ga} {k : Nat} (h : GaI g k) : IntKind.wrap .i64 (((g.bs.length : Nat) : Int).tdiv 48) = ((g.bs.length / 48 : Nat) : Int) := by
  have := h.len_le
  rw [show ((g.bs.length : Nat) : Int).tdiv 48 = ((g.bs.length / 48 : Nat) : Int) from tdiv_nat _ 48, wrap_i64 _ (by omega) (by omega)]
theorem parts_ne {g : Ga} {k : Nat} (h : GaI g k) : (((g.bs.length / 48 : Nat) : Int) != IntKind.wrap .i64 (((g.bs.length : Nat) : Int).tdiv 48)) = false := by rw [parts_eq h]; simp
theorem PaI.at {A : Option Addr} {w : World} {n : Nat} {q : Nat → Pa} (h : PasAt w A n q) (k : Nat) : PaI (q k) := h.1 k
/-- What happens to a gather. -/
def stepG (g : Ga) (x : Pa) : Ga := bif x.tick then tickF g x.t else takeF g x.t x.ps x.last
def gwalk (g : Ga) (q : Nat → Pa) : Nat → Ga
  | 0 => g
  | k + 1 => stepG (gwalk g q k) (q k)
def newG (m : Int) : Ga := ⟨imax 1 (imin m 1152921504606846976), 0, 0, [], false⟩
theorem stepG_tick {g : Ga} {x : Pa} (h : x.tick = true) : tickF g x.t = stepG g x := by unfold stepG; rw [h]; rfl
theorem stepG_take {g : Ga} {x : Pa} (h : x.tick = false) : takeF g x.t x.ps x.last = stepG g x := by unfold stepG; rw [h]; rfl
theorem GaI.step {g : Ga} {k : Nat} (h : GaI g k) {x : Pa} (hx : PaI x) (h0 : 0 ≤ x.t) (h1 : x.t ≤ 1152921504606846976) : GaI (stepG g x) (k + 3) := by
  unfold stepG
  cases x.tick
  · exact h.take x.last h0 h1 hx.1 hx.2
  · exact (h.tick x.t).mono (by omega)
theorem takeT_le {g : Ga} {k : Nat} (h : GaI g k) (t : Int) (p : List Int) (last : Bool) (hp : p.length = 48) : (takeT g t p last).length ≤ 1008 := by
  obtain ⟨m, hm, hl⟩ := (h.tick t).len
  unfold takeT
  cases (tickF g t).sk
  · cases last
    · simp
    · simp only [cond_false, cond_true]
      have := unT_le ((tickF g t).bs ++ p)
      rw [List.length_append] at this
      omega
  · simp
end Go.Proofs.Ytgiefcolkohgkaa
