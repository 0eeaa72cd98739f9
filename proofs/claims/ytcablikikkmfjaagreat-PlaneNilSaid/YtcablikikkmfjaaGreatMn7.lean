import Derived.Test.YtcablikikkmfjaaGreatProg
import Derived.Test.YtcablikikkmfjaaGreatMn6
section
/- Layer 22: a new plane, plain. -/
set_option linter.unusedVariables false
set_option linter.unusedSimpArgs false
namespace Go.Proofs.YtcablikikkmfjaaGreat
open Go.Vc Go.RowKit
def gaZ (wait : Int) : Ga := ⟨imax 1 (imin wait 1152921504606846976), 0, 0, [], false⟩
def lkZ (wait : Int) : Lk := ⟨false, gaZ wait, false⟩
def newS (rs : List Int) (m : Tm) (wait : Int) : PS := ⟨roomsN rs, [], [], [], List.replicate (min rs.length 8) (lkZ wait), m, wait, 0, fun _ => 0⟩
def nob : Nat → Prop := fun _ => False
structure Lks (w : World) (lo : Nat) (wait : Int) (ls gs : List Nat) : Prop where
  len : ls.length = gs.length
  lk : ∀ (i lb gb : Nat), ls[i]? = some lb → gs[i]? = some gb → LkI w lb gb nob (lkZ wait)
  n1 : ls.Nodup
  n2 : gs.Nodup
  l1 : ∀ x ∈ ls, lo ≤ x
  l2 : ∀ x ∈ gs, lo ≤ x
section
variable {w w1 : World} {F : Nat → Prop} {lo : Nat} {wait : Int} {ls gs : List Nat}
theorem LkI.lt {lb gb : Nat} {X : Nat → Prop} {l : Lk} (h : LkI w lb gb X l) : lb < w.heap.size ∧ gb < w.heap.size := by
  obtain ⟨⟨r, d, ho⟩, A, c, ha, _⟩ := h; exact ⟨ho.lt, ha.lt⟩
theorem LkI.tys {lb gb : Nat} {X : Nat → Prop} {l : Lk} (h : LkI w lb gb X l) : tyO w lb = 134 + 2 ∧ tyO w gb = 246 + 2 := by
  obtain ⟨⟨r, d, ho⟩, A, c, ha, _⟩ := h; exact ⟨tyO_own ho, tyO_own ha⟩
theorem Lks.two (h : Lks w lo wait ls gs) {x : Nat} (hx : x ∈ ls ∨ x ∈ gs) : ∃ lb gb, LkI w lb gb nob (lkZ wait) ∧ (x = lb ∨ x = gb) := by
  have hlen := h.len
  rcases hx with hx | hx
  · obtain ⟨i, hi⟩ := List.mem_iff_getElem?.1 hx
    have hl := (List.getElem?_eq_some_iff.1 hi).1
    exact ⟨x, _, h.lk i x _ hi (List.getElem?_eq_getElem (by omega)), .inl rfl⟩
  · obtain ⟨i, hi⟩ := List.mem_iff_getElem?.1 hx
    have hl := (List.getElem?_eq_some_iff.1 hi).1
    exact ⟨_, x, h.lk i _ x (List.getElem?_eq_getElem (by omega)) hi, .inr rfl⟩
theorem Lks.lt (h : Lks w lo wait ls gs) {x : Nat} (hx : x ∈ ls ∨ x ∈ gs) : x < w.heap.size := by
  obtain ⟨lb, gb, h1, e | e⟩ := h.two hx
  · rw [e]; exact h1.lt.1
  · rw [e]; exact h1.lt.2
theorem Lks.ty (h : Lks w lo wait ls gs) {x : Nat} (hx : x ∈ ls ∨ x ∈ gs) : tyO w x = 134 + 2 ∨ tyO w x = 246 + 2 := by
  obtain ⟨lb, gb, h1, e | e⟩ := h.two hx
  · rw [e]; exact .inl h1.tys.1
  · rw [e]; exact .inr h1.tys.2
theorem Lks.step (h : Lks w lo wait ls gs) (hs : Step F w w1) (hF : ∀ x, x ∈ ls ∨ x ∈ gs → ¬ F x) : Lks w1 lo wait ls gs :=
  ⟨h.len, fun i lb gb a b => (h.lk i lb gb a b).step hs (hF _ (.inl (List.mem_of_getElem? a))) (hF _ (.inr (List.mem_of_getElem? b))) (fun _ h9 => h9.elim), h.n1, h.n2, h.l1, h.l2⟩
theorem Lks.no (h : Lks w lo wait ls gs) (hs : Step No w w1) : Lks w1 lo wait ls gs := h.step hs fun _ _ => id
theorem Lks.below (h : Lks w lo wait ls gs) (hs : Step F w w1) (hF : ∀ k, F k → k < lo) : Lks w1 lo wait ls gs := h.step hs fun x hx hf => by
  have := hF x hf
  rcases hx with hx | hx
  · have := h.l1 x hx; omega
  · have := h.l2 x hx; omega
theorem Lks.row {base n c : Nat} {A : Option Addr} {xs : List Value} (h : Lks w lo wait ls gs) (hr : RwS w 1 base 130 A n c xs) (hs : Step (ownB A) w w1) : Lks w1 lo wait ls gs := h.step hs fun x hx hf => by
  have h1 := tyO_tyB (hr.tyB hf)
  rcases h.ty hx with h2 | h2 <;> omega
theorem Lks.lower {lo' : Nat} (h : Lks w lo wait ls gs) (hl : lo' ≤ lo) : Lks w lo' wait ls gs := { h with l1 := fun x hx => Nat.le_trans hl (h.l1 x hx), l2 := fun x hx => Nat.le_trans hl (h.l2 x hx) }
theorem Lks.nil (w : World) (lo : Nat) (wait : Int) : Lks w lo wait [] [] := ⟨rfl, fun i a b h => by simp at h, List.nodup_nil, List.nodup_nil, by simp, by simp⟩
theorem Lks.push {lb gb : Nat} {X : Nat → Prop} (h : Lks w lo wait ls gs) (hl : Own w lb #[.int .i64 0, .int .i64 0, .bool false, .pointer (some ⟨gb, 0, none⟩), .bool false] 134) (hg : GaOf w 246 gb X (gaZ wait)) (h1 : lb ∉ ls) (h2 : gb ∉ gs) (h3 : lo ≤ lb) (h4 : lo ≤ gb) : Lks w lo wait (ls ++ [lb]) (gs ++ [gb]) := by
  have hlen := h.len
  have hn : LkI w lb gb nob (lkZ wait) := by
    obtain ⟨A, c, ho, hv, hc⟩ := hg
    exact ⟨⟨0, 0, hl⟩, A, c, ho, fun h9 => (by simp [lkZ, gaZ, iL] at h9), hc⟩
  refine ⟨by simp [hlen], fun i a b ha hb => ?_, ?_, ?_, ?_, ?_⟩
  · by_cases e : i < ls.length
    · rw [List.getElem?_append_left e] at ha
      rw [List.getElem?_append_left (by omega)] at hb
      exact h.lk i a b ha hb
    · have hi : i = ls.length := by
        have := (List.getElem?_eq_some_iff.1 ha).1
        simp at this; omega
      subst hi
      rw [List.getElem?_append_right (by omega), Nat.sub_self] at ha
      rw [List.getElem?_append_right (by omega), show ls.length - gs.length = 0 by omega] at hb
      simp only [List.getElem?_cons_zero, Option.some.injEq] at ha hb
      rw [← ha, ← hb]; exact hn
  · rw [List.nodup_append]
    refine ⟨h.n1, by simp, fun x hx y hy e => ?_⟩
    simp at hy
    rw [e, hy] at hx; exact h1 hx
  · rw [List.nodup_append]
    refine ⟨h.n2, by simp, fun x hx y hy e => ?_⟩
    simp at hy
    rw [e, hy] at hx; exact h2 hx
  · intro x hx
    rcases List.mem_append.1 hx with hx | hx
    · exact h.l1 x hx
    · simp at hx; omega
  · intro x hx
    rcases List.mem_append.1 hx with hx | hx
    · exact h.l2 x hx
    · simp at hx; omega
end
theorem list_rng (ls : List Nat) : ls = (List.range ls.length).map fun i => ls.getD i 0 := by
  apply List.ext_getElem (by simp)
  intro i h1 h2
  simp [List.getD, h1]
theorem NdP.lower {w : World} {nd lo lo' n : Nat} {X : Nat → Prop} {rooms : List Int} {L : List Cx} (h : NdP w nd X lo rooms L n) (hl : lo' ≤ lo) : NdP w nd X lo' rooms L n := by
  obtain ⟨g, h1, h2, h3⟩ := h
  exact ⟨g, { h1 with lo := fun k hk => Nat.le_trans hl (h1.lo k hk) }, h2, h3⟩
/-- What was laid of a new plane's parts. -/
def NewI (base : Nat) (rms : List Int) (D : Nat → Bool) (us : Nat → Value) (x : World) : Prop :=
  base ≤ x.heap.size ∧ ∃ (nd tb m1 m2 : Nat) (Xn : Nat → Prop),
    (D 1 = true → us 1 = .pointer (some ⟨nd, 0, none⟩) ∧ NdP x nd Xn base rms [] 0) ∧
    (D 2 = true → us 2 = .pointer (some ⟨tb, 0, none⟩) ∧ Tb x tb 64 [] ∧ base ≤ tb ∧ (D 1 = true → ¬ Xn tb)) ∧
    (D 3 = true → us 3 = .map (some m1) ∧ MapL x m1 ei wpV ([] : List (Int × Nat)) ∧ base ≤ m1 ∧ (D 1 = true → ¬ Xn m1)) ∧
    (D 4 = true → us 4 = .map (some m2) ∧ MapL x m2 knV tkV ([] : KM) ∧ base ≤ m2 ∧ (D 1 = true → ¬ Xn m2)) ∧
    (D 3 = true → D 4 = true → m1 ≠ m2)
section
variable {base : Nat} {rms : List Int} {D D' : Nat → Bool} {us us' : Nat → Value} {x y : World}
theorem NewI.no (h : NewI base rms D us x) (hs : Step No x y) : NewI base rms D us y := by
  obtain ⟨h0, nd, tb, m1, m2, Xn, h1, h2, h3, h4, h5⟩ := h
  exact ⟨Nat.le_trans h0 hs.size, nd, tb, m1, m2, Xn, fun d => ⟨(h1 d).1, (h1 d).2.no hs⟩, fun d => ⟨(h2 d).1, (h2 d).2.1.no hs, (h2 d).2.2⟩, fun d => ⟨(h3 d).1, (h3 d).2.1.no hs, (h3 d).2.2⟩, fun d => ⟨(h4 d).1, (h4 d).2.1.no hs, (h4 d).2.2⟩, h5⟩
theorem NewI.congr (he : ∀ k, nmem k [1, 2, 3, 4] = true → D' k = D k ∧ (D k = true → us' k = us k)) (h : NewI base rms D us x) : NewI base rms D' us' x := by
  obtain ⟨h0, nd, tb, m1, m2, Xn, h1, h2, h3, h4, h5⟩ := h
  have e1 := he 1 rfl
  have e2 := he 2 rfl
  have e3 := he 3 rfl
  have e4 := he 4 rfl
  refine ⟨h0, nd, tb, m1, m2, Xn, fun d => ?_, fun d => ?_, fun d => ?_, fun d => ?_, fun d d' => h5 (e3.1 ▸ d) (e4.1 ▸ d')⟩
  · have d' := e1.1 ▸ d; exact ⟨(e1.2 d').trans (h1 d').1, (h1 d').2⟩
  · have d' := e2.1 ▸ d; exact ⟨(e2.2 d').trans (h2 d').1, (h2 d').2.1, (h2 d').2.2.1, fun q => (h2 d').2.2.2 (e1.1 ▸ q)⟩
  · have d' := e3.1 ▸ d; exact ⟨(e3.2 d').trans (h3 d').1, (h3 d').2.1, (h3 d').2.2.1, fun q => (h3 d').2.2.2 (e1.1 ▸ q)⟩
  · have d' := e4.1 ▸ d; exact ⟨(e4.2 d').trans (h4 d').1, (h4 d').2.1, (h4 d').2.2.1, fun q => (h4 d').2.2.2 (e1.1 ▸ q)⟩
theorem NewI.start (hb : base ≤ x.heap.size) (hd : ∀ k, nmem k [1, 2, 3, 4] = true → D k = false) : NewI base rms D us x := by
  have e1 := hd 1 rfl
  have e2 := hd 2 rfl
  have e3 := hd 3 rfl
  have e4 := hd 4 rfl
  exact ⟨hb, 0, 0, 0, 0, nob, fun d => (by rw [e1] at d; cases d), fun d => (by rw [e2] at d; cases d), fun d => (by rw [e3] at d; cases d), fun d => (by rw [e4] at d; cases d), fun d => (by rw [e3] at d; cases d)⟩
theorem NewI.put1 {nd : Nat} {X : Nat → Prop} (h : NewI base rms D us x) (hs : Step No x y) (hn : NdP y nd X x.heap.size rms [] 0) (d : D 1 = false) : NewI base rms (fun j => if j = 1 then true else D j) (fun j => if j = 1 then Value.pointer (some ⟨nd, 0, none⟩) else us j) y := by
  obtain ⟨h0, nd0, tb, m1, m2, Xn, h1, h2, h3, h4, h5⟩ := h.no hs
  have hz : base ≤ x.heap.size := h.1
  refine ⟨h0, nd, tb, m1, m2, X, fun _ => ⟨rfl, hn.lower hz⟩, fun d2 => ?_, fun d3 => ?_, fun d4 => ?_, h5⟩
  · obtain ⟨a, b, c, _⟩ := h2 d2
    obtain ⟨_, nd', tb', m1', m2', Xn', _, g2, _⟩ := h
    obtain ⟨a', b', _⟩ := g2 d2
    rw [a'] at a
    injection a with a
    injection a with a
    injection a with a
    subst a
    exact ⟨a', b, c, fun _ hx => by have := hn.low hx; have := b'.lt; omega⟩
  · obtain ⟨a, b, c, _⟩ := h3 d3
    obtain ⟨_, nd', tb', m1', m2', Xn', _, _, g3, _⟩ := h
    obtain ⟨a', b', _⟩ := g3 d3
    rw [a'] at a
    injection a with a
    injection a with a
    subst a
    exact ⟨a', b, c, fun _ hx => by have := hn.low hx; have := b'.lt; omega⟩
  · obtain ⟨a, b, c, _⟩ := h4 d4
    obtain ⟨_, nd', tb', m1', m2', Xn', _, _, _, g4, _⟩ := h
    obtain ⟨a', b', _⟩ := g4 d4
    rw [a'] at a
    injection a with a
    injection a with a
    subst a
    exact ⟨a', b, c, fun _ hx => by have := hn.low hx; have := b'.lt; omega⟩
theorem NewI.put2 {tb : Nat} (h : NewI base rms D us x) (hs : Step No x y) (ht : Tb y tb 64 []) (hz : ¬ tb < x.heap.size) : NewI base rms (fun j => if j = 2 then true else D j) (fun j => if j = 2 then Value.pointer (some ⟨tb, 0, none⟩) else us j) y := by
  obtain ⟨h0, nd, tb0, m1, m2, Xn, h1, h2, h3, h4, h5⟩ := h
  exact ⟨Nat.le_trans h0 hs.size, nd, tb, m1, m2, Xn, fun d => ⟨(h1 d).1, (h1 d).2.no hs⟩, fun _ => ⟨rfl, ht, by omega, fun d1 hx => by have := (h1 d1).2.ltX hx; omega⟩, fun d => ⟨(h3 d).1, (h3 d).2.1.no hs, (h3 d).2.2⟩, fun d => ⟨(h4 d).1, (h4 d).2.1.no hs, (h4 d).2.2⟩, h5⟩
theorem NewI.put3 {m : Nat} (h : NewI base rms D us x) (hs : Step No x y) (hm : MapL y m ei wpV ([] : List (Int × Nat))) (hz : ¬ m < x.heap.size) : NewI base rms (fun j => if j = 3 then true else D j) (fun j => if j = 3 then .map (some m) else us j) y := by
  obtain ⟨h0, nd, tb, m1, m2, Xn, h1, h2, h3, h4, h5⟩ := h
  exact ⟨Nat.le_trans h0 hs.size, nd, tb, m, m2, Xn, fun d => ⟨(h1 d).1, (h1 d).2.no hs⟩, fun d => ⟨(h2 d).1, (h2 d).2.1.no hs, (h2 d).2.2⟩, fun _ => ⟨rfl, hm, by omega, fun d1 hx => by have := (h1 d1).2.ltX hx; omega⟩, fun d => ⟨(h4 d).1, (h4 d).2.1.no hs, (h4 d).2.2⟩, fun _ d4 e => by have := (h4 d4).2.1.lt; omega⟩
theorem NewI.put4 {m : Nat} (h : NewI base rms D us x) (hs : Step No x y) (hm : MapL y m knV tkV ([] : KM)) (hz : ¬ m < x.heap.size) : NewI base rms (fun j => if j = 4 then true else D j) (fun j => if j = 4 then .map (some m) else us j) y := by
  obtain ⟨h0, nd, tb, m1, m2, Xn, h1, h2, h3, h4, h5⟩ := h
  exact ⟨Nat.le_trans h0 hs.size, nd, tb, m1, m, Xn, fun d => ⟨(h1 d).1, (h1 d).2.no hs⟩, fun d => ⟨(h2 d).1, (h2 d).2.1.no hs, (h2 d).2.2⟩, fun d => ⟨(h3 d).1, (h3 d).2.1.no hs, (h3 d).2.2⟩, fun _ => ⟨rfl, hm, by omega, fun d1 hx => by have := (h1 d1).2.ltX hx; omega⟩, fun d3 _ e => by have := (h3 d3).2.1.lt; omega⟩
end
theorem PnX.fresh {w1 : World} {p nd tb m1 m2 c lo base : Nat} {A : Option Addr} {Xn : Nat → Prop} {rs : List Int} {tm : Tm} {wait : Int} {ls gs : List Nat} (hl : ls.length = min rs.length 8)
    (ho : Own w1 p #[.pointer (some ⟨nd, 0, none⟩), .slice A (min rs.length 8) c, .pointer (some ⟨tb, 0, none⟩), .map (some m1), .map (some m2), .int .i64 tm.s, .int .i64 tm.c, .int .i64 tm.r, .int .i64 wait, .int .i64 0, .int .i64 0, .int .i64 0, .int .i64 0, .int .i64 0, .int .i64 0, .int .i64 0, .int .i64 0, .int .i64 0, .int .i64 0, .int .i64 0] 129)
    (hn : NdP w1 nd Xn lo (roomsN rs) [] 0) (ht : Tb w1 tb 64 []) (hm1 : MapL w1 m1 ei wpV ([] : List (Int × Nat))) (hm2 : MapL w1 m2 knV tkV ([] : KM)) (hk : Lks w1 lo wait ls gs) (hr : RwS w1 1 base 130 A (min rs.length 8) c (flat lgc ls)) (n1 : ¬ Xn tb) (n2 : ¬ Xn m1) (n3 : ¬ Xn m2) (n4 : m1 ≠ m2)
    (hp : lo ≤ p) (htb : lo ≤ tb) (h1 : lo ≤ m1) (h2 : lo ≤ m2) (hb : lo ≤ base) :
    ∃ X, PlP w1 p X nob lo (newS rs tm wait) 0 ∧ ∀ q, X q → lo ≤ q := by
  have hlg : gs.length = ls.length := hk.len.symm
  have hlk : (newS rs tm wait).lk.length = ls.length := by simp [newS, hl]
  have hrow : 0 < ls.length → ∃ rb, A = some ⟨rb, 0, none⟩ ∧ base ≤ rb ∧ RowE w1 rb 130 (flat lgc ls) := fun h0 => RowE.of_rw hr (by omega)
  obtain ⟨rb, hrb⟩ : ∃ rb, 0 < ls.length → A = some ⟨rb, 0, none⟩ ∧ base ≤ rb ∧ RowE w1 rb 130 (flat lgc ls) := by
    by_cases h0 : 0 < ls.length
    · obtain ⟨rb, h⟩ := hrow h0; exact ⟨rb, fun _ => h⟩
    · exact ⟨0, fun h => absurd h h0⟩
  have getl : ∀ i, i < ls.length → ls[i]? = some (ls.getD i 0) := fun i hi => by rw [List.getD_eq_getElem?_getD, List.getElem?_eq_getElem hi]; rfl
  have getg : ∀ i, i < ls.length → gs[i]? = some (gs.getD i 0) := fun i hi => by rw [List.getD_eq_getElem?_getD, List.getElem?_eq_getElem (by omega)]; rfl
  have meml : ∀ i, i < ls.length → ls.getD i 0 ∈ ls := fun i hi => List.mem_of_getElem? (getl i hi)
  have memg : ∀ i, i < ls.length → gs.getD i 0 ∈ gs := fun i hi => List.mem_of_getElem? (getg i hi)
  let g : PlG := ⟨nd, A, rb, c, tb, m1, m2, Xn, fun i => ls.getD i 0, fun i => gs.getD i 0, [], 0, []⟩
  refine ⟨fun k => PlSet g (newS rs tm wait) k ∨ k = p ∨ k = tb ∨ k = m1 ∨ k = m2, ⟨g, ?_⟩, ?_⟩
  · refine { own := ho.cast (by rw [show min rs.length 8 = (newS rs tm wait).lk.length by rw [hlk, hl]]; rfl), tab := ht, wmap := hm1, cmap := hm2, s := ?_, W := rfl, ids := fun z hz => (by cases hz), idi := fun z hz => (by cases hz), idl := fun z hz => (by cases hz), Ml := fun id b hb => (by cases hb), nx := Nat.le_refl _, ntb := n1, nwm := n2, ncm := n3, wc := n4, inX := fun k hk => .inl hk, inp := ⟨.inr (.inl rfl), .inr (.inr (.inl rfl)), .inr (.inr (.inr (.inl rfl))), .inr (.inr (.inr (.inr rfl)))⟩, ty := fun k hk9 => ?_, lw := fun k hk9 => ?_, xb := fun k hk9 => hk9.elim, pi := ?_ }
    · refine { node := hn, row := fun h0 => ?_, lnk := fun i l hl9 => ?_, lgi := fun i j hi hj e => ?_, ggi := fun i j hi hj e => ?_, way := fun z hz => (by cases hz), wbi := fun z hz => (by cases hz), abi := fun z hz => (by cases hz) }
      · rw [hlk] at h0 ⊢
        obtain ⟨a, b, c9⟩ := hrb h0
        exact ⟨a, by rw [← list_rng ls]; exact c9⟩
      · have hi := (List.getElem?_eq_some_iff.1 hl9).1
        rw [hlk] at hi
        have hz : l = lkZ wait := by
          simp only [newS] at hl9
          rw [List.getElem?_replicate] at hl9
          split at hl9
          · simpa using hl9.symm
          · cases hl9
        rw [hz]
        exact hk.lk i _ _ (getl i hi) (getg i hi)
      · rw [hlk] at hi hj
        have := (List.getElem?_inj (i := i) (j := j) (by omega) hk.n1).1 (by rw [getl i hi, getl j hj]; exact congrArg some e)
        exact this
      · rw [hlk] at hi hj
        have := (List.getElem?_inj (i := i) (j := j) (by omega) hk.n2).1 (by rw [getg i hi, getg j hj]; exact congrArg some e)
        exact this
    · rcases hk9 with (hk9 | ⟨h0, rfl⟩ | ⟨i, hi, rfl | rfl⟩ | ⟨z, hz, _⟩) | rfl | rfl | rfl | rfl
      · exact .of_NT (hn.nt hk9)
      · rw [hlk] at h0; obtain ⟨_, _, c9⟩ := hrb h0; exact ⟨c9.lt, by rw [tyO_tyB c9.ty]; unfold PT0; omega⟩
      · rw [hlk] at hi; exact ⟨hk.lt (.inl (meml i hi)), by rw [(hk.lk i _ _ (getl i hi) (getg i hi)).tys.1]; unfold PT0; omega⟩
      · rw [hlk] at hi; exact ⟨hk.lt (.inr (memg i hi)), by rw [(hk.lk i _ _ (getl i hi) (getg i hi)).tys.2]; unfold PT0; omega⟩
      · cases hz
      · exact PTy.own ho (by unfold PT0; omega)
      · exact ⟨ht.lt, by rw [tyO_tb ht]; unfold PT0; omega⟩
      · exact ⟨hm1.lt, by rw [tyO_map hm1]; unfold PT0; omega⟩
      · exact ⟨hm2.lt, by rw [tyO_map hm2]; unfold PT0; omega⟩
    · rcases hk9 with (hk9 | ⟨h0, rfl⟩ | ⟨i, hi, rfl | rfl⟩ | ⟨z, hz, _⟩) | rfl | rfl | rfl | rfl
      · exact hn.low hk9
      · rw [hlk] at h0; obtain ⟨_, b9, _⟩ := hrb h0; exact Nat.le_trans hb b9
      · rw [hlk] at hi; exact hk.l1 _ (meml i hi)
      · rw [hlk] at hi; exact hk.l2 _ (memg i hi)
      · cases hz
      · exact hp
      · exact htb
      · exact h1
      · exact h2
    · refine { len := rfl, out := fun y hy => (by cases hy), one := List.Pairwise.nil, inn := fun y hy => (by cases hy), srt := List.Pairwise.nil, als := fun y hy => (by cases hy), now := by simp [newS], cn := fun j => by simp [newS], nl := by rw [hlk, hl]; omega, nr := by rw [hlk, hl]; exact roomsN_len rs, ga := fun l hl9 => ?_ }
      have hz : l = lkZ wait := List.eq_of_mem_replicate hl9
      rw [hz]
      exact ⟨⟨0, by omega, rfl⟩, Bytes.nil, by simp [lkZ, gaZ], by simp [lkZ, gaZ], by simp [lkZ, gaZ], by simp [lkZ, gaZ]⟩
  · intro q hq
    rcases hq with (hk9 | ⟨h0, rfl⟩ | ⟨i, hi, rfl | rfl⟩ | ⟨z, hz, _⟩) | rfl | rfl | rfl | rfl
    · exact hn.low hk9
    · rw [hlk] at h0; obtain ⟨_, b9, _⟩ := hrb h0; exact Nat.le_trans hb b9
    · rw [hlk] at hi; exact hk.l1 _ (meml i hi)
    · rw [hlk] at hi; exact hk.l2 _ (memg i hi)
    · cases hz
    · exact hp
    · exact htb
    · exact h1
    · exact h2
end Go.Proofs.YtcablikikkmfjaaGreat
end

section
/- Layer 22: a new plane. -/
set_option linter.unusedVariables false
set_option linter.unusedSimpArgs false
set_option maxRecDepth 100000
set_option maxHeartbeats 4000000
namespace Go.Proofs.YtcablikikkmfjaaGreat
open Go.Vc Go.RowKit

theorem pnew_x (A : Option Addr) (n c Bd : Nat) (rs : List Int) (tm : Tm) (wait : Int) (w : World) (hn : rs.length = n) (hA : Sl w Bd A (iL .i64 rs)) (hB : Bd ≤ w.heap.size) (hnc : n ≤ c) :
  CV Tryz.prog 16 #[.slice A n c, .agg #[I6 tm.s, I6 tm.c, I6 tm.r], I6 wait] w (fun x w1 => ∃ p X, x = Pt p 0 ∧ PlP w1 p X nob w.heap.size (newS rs tm wait) 0 ∧ (∀ q, X q → w.heap.size ≤ q) ∧ Step No w w1) := by
 have hS : Step No w w := Step.refl _ _
 refine VCe Tryz.func16 (Vs (Vr ?_))
 refine Vx 0 32 #[I6 tm.s, I6 tm.c, I6 tm.r] ?_
 intro b1 w1 hn1
 replace hS := Step.trans hS (hn1.step No)
 replace hA := hA.no (hn1.step No)
 have ho1 := hn1.own
 have hzhn1 := hn1.size
 have hqhn1 := hn1.eqb
 refine Ve (Vn (Vs ?_))
 refine VC_glob [[], [0], [0, 1], [], [], [], [], [0, 1, 2, 3, 4, 5, 6], [0, 1, 2, 3, 4, 5, 6, 7], [0, 1, 2, 3, 4, 5, 6, 7, 8]] 7 [.slice A n c, undef, undef, undef, undef, .agg #[I6 tm.s, I6 tm.c, I6 tm.r], I6 wait] [0, 6] [5] [1, 2, 3, 4] (NewI w.heap.size (roomsN rs)) (by kernel_rfl) (by kernel_rfl) (by kernel_rfl) (fun _ _ _ _ h9 hs9 => h9.no hs9) (fun _ _ _ _ _ he9 h9 => h9.congr he9) (fun _ _ h9 => NewI.start hS.size h9) (by kernel_rfl) (by kernel_rfl) (by kernel_rfl) (by kernel_rfl) ?_ ?_ ?_
 ·intro w2 hs1
  replace ho1 := ho1.no hs1
  exact ⟨Det1_load (d := 13) (t := 32) (a := ⟨b1, 0, none⟩) (by kernel_rfl) (by kernel_rfl) (Loads.ownL ho1 (n := 3) (by kernel_rfl) (by kernel_rfl) (by kernel_rfl)), trivial⟩
 ·intro D9 us9 w3 hs2 hI9
  have hz9 := hs2.size
  replace hA := hA.no hs2
  refine ⟨fun hd9 => V1_call (d := 9) (f := 52) (by kernel_rfl) (by kernel_rfl) Tryz.call52 (nnew hn hA (by omega) hnc) ?_, fun hd9 => V1_call (d := 10) (f := 53) (by kernel_rfl) (by kernel_rfl) Tryz.call53 (tnew 64 _) ?_, fun hd9 => V1_mkMap (d := 11) (by kernel_rfl) ?_, fun hd9 => V1_mkMap (d := 12) (by kernel_rfl) ?_, trivial⟩
  ·rintro _ w9 ⟨nd9, X9, rfl, hn9, _, hs9⟩; exact ⟨_, 9, rfl, look_head, hs9, hI9.put1 hs9 hn9 hd9⟩
  ·rintro _ w9 ⟨tb9, rfl, hz9, ht9, hs9⟩; exact ⟨_, 10, rfl, look_head, hs9, hI9.put2 hs9 (by rw [show imax 0 (imin 64 64) = 64 from by decide] at ht9; exact ht9) hz9⟩
  ·intro m9 w9 hn9; exact ⟨_, 11, rfl, look_head, hn9.step No, hI9.put3 (hn9.step No) (New.map hn9 ei wpV) (by have := hn9.eqb; omega)⟩
  ·intro m9 w9 hn9; exact ⟨_, 12, rfl, look_head, hn9.step No, hI9.put4 (hn9.step No) (New.map hn9 knV tkV) (by have := hn9.eqb; omega)⟩
 intro w4 us1 hs3 hI9
 replace hS := Step.trans hS hs3
 replace hA := hA.no hs3
 replace ho1 := ho1.no hs3
 obtain ⟨hI0, nd, tb, m1, m2, Xn, hI1, hI2, hI3, hI4, hI5⟩ := hI9
 obtain ⟨he1, hnd⟩ := hI1 rfl
 obtain ⟨he2, hT1, hbT, hxT⟩ := hI2 rfl
 obtain ⟨he3, hM1, hb1, hx1⟩ := hI3 rfl
 obtain ⟨he4, hM2, hb2, hx2⟩ := hI4 rfl
 replace hI5 := hI5 rfl rfl
 replace hxT := hxT rfl
 replace hx1 := hx1 rfl
 replace hx2 := hx2 rfl
 refine VL_keep [0, 2, 9, 10, 11, 12, 13, 14] [(0, .slice A n c), (2, I6 wait), (9, us1 1), (10, us1 2), (11, us1 3), (12, us1 4), (13, .agg #[I6 tm.s, I6 tm.c, I6 tm.r]), (14, I6 wait)] (by kernel_rfl) ?_
 rw [he1, he2, he3, he4]
 refine Vp 8 ?_
 have hzl2 := ho1.lt
 have hzl4 := Tb.lt hT1
 have hzl5 := MapL.lt hM1
 have hzl6 := MapL.lt hM2
 refine Vx 8 129 #[Pt nd 0, .slice none 0 0, Pt tb 0, .map (some m1), .map (some m2), I6 tm.s, I6 tm.c, I6 tm.r, I6 wait, I6 0, I6 0, I6 0, I6 0, I6 0, I6 0, I6 0, I6 0, I6 0, I6 0, I6 0] ?_
 intro b2 w5 hn2
 replace hS := Step.trans hS (hn2.step No)
 replace hA := hA.no (hn2.step No)
 replace hnd := NdP.no hnd (hn2.step No)
 replace hT1 := Tb.no hT1 (hn2.step No)
 replace hM1 := MapL.no hM1 (hn2.step No)
 replace hM2 := MapL.no hM2 (hn2.step No)
 have ho2 := hn2.own
 have hzhn2 := hn2.size
 have hqhn2 := hn2.eqb
 refine Ve (Vn (Vs (Vs ?_)))
 obtain ⟨lo9, hlo9E⟩ : ∃ x, x = w5.heap.size := ⟨_, rfl⟩
 have hlo9 : lo9 ≤ w5.heap.size := Nat.le_of_eq hlo9E
 have hlks := Lks.nil w5 lo9 wait
 have hlX9 : (∀ k, Xn k → k < lo9) ∧ tb < lo9 ∧ m1 < lo9 ∧ m2 < lo9 := by rw [hlo9E]; exact ⟨fun k hk => hnd.ltX hk, hT1.lt, hM1.lt, hM2.lt⟩
 have hNX := hlX9.1
 refine Vr (Vp 3 (Vq 19 (I6 (imin ((n : Nat) : Int) 8)) (I6 ((min n 8 : Nat) : Int)) (by rw [show imin ((n : Nat) : Int) 8 = ((min n 8 : Nat) : Int) by unfold imin; split <;> omega]) (Ve (Vn (VC_block (VC_loop (σ := Nat × (List Nat) × (List Nat) × (Option Addr) × Nat) (fun σs => [(2, I6 wait), (7, Pt b2 0), (19, I6 ((min n 8 : Nat) : Int)), (20, I6 ((σs.1 : Nat) : Int))]) (fun σs wr => σs.1 ≤ min n 8 ∧ σs.2.1.length = σs.1 ∧ Own wr b2 #[Pt nd 0, .slice σs.2.2.2.1 σs.1 σs.2.2.2.2, Pt tb 0, .map (some m1), .map (some m2), I6 tm.s, I6 tm.c, I6 tm.r, I6 wait, I6 0, I6 0, I6 0, I6 0, I6 0, I6 0, I6 0, I6 0, I6 0, I6 0, I6 0] 129 ∧ Lks wr lo9 wait σs.2.1 σs.2.2.1 ∧ RwS wr 1 lo9 130 σs.2.2.2.1 σs.1 σs.2.2.2.2 (flat lgc σs.2.1) ∧ (Step No w wr) ∧ (Sl wr Bd A (iL .i64 rs)) ∧ (NdP wr nd Xn w.heap.size (roomsN rs) ([] : List Cx) 0) ∧ (Tb wr tb 64 ([] : List Ent)) ∧ (MapL wr m1 ei wpV ([] : List (Int × Nat))) ∧ (MapL wr m2 knV tkV ([] : KM)) ∧ (lo9 ≤ wr.heap.size)) (fun σs wr => min n 8 - σs.1) ⟨0, [], [], none, 0⟩ Su ?_ ?_))))))
 ·exact ⟨Nat.zero_le _, rfl, ho2, hlks, RwS.nil _ _ _ _, hS, hA, hnd, hT1, hM1, hM2, hlo9⟩
 rintro ⟨j, ls, gs, AL, cL⟩ wr ⟨hj0, hlj, hnd9, hlks, hRow, hS, hA, hnd, hT1, hM1, hM2, hlo9⟩
 try dsimp only at hj0 hlj hnd9 hlks hRow hS hA hnd hT1 hM1 hM2 hlo9 ⊢
 refine Vrp (Vs (Vid (((j : Nat) : Int) < ((min n 8 : Nat) : Int)) (fun h1 => ?_) (fun h1 => ?_)))
 ·refine VC_skip (Vn (Vs (VC_block ?_)))
  have hub9 : ∀ x, x ∈ ls ∨ x ∈ gs → x < wr.heap.size := fun x hx => Lks.lt hlks hx
  have hs4 := drew_step wr
  have hs4z : wr.heap.size = wr.drew.heap.size := rfl
  refine Tx 11 (fun k => lo9 ≤ k ∨ wr.heap.size ≤ k) [6, 8, 9, 10] [0, 1, 2, 3, 4, 5, 6, 7, 8, 9, 10] ?_
  have hzl13 := hnd9.lt
  generalize wr.drew = w6 at hs4 hs4z ⊢
  replace hnd9 := hnd9.no hs4
  replace hlks := Lks.no hlks hs4
  replace hRow := hRow.no hs4
  replace hS := Step.trans hS hs4
  replace hA := hA.no hs4
  replace hnd := NdP.no hnd hs4
  replace hT1 := Tb.no hT1 hs4
  replace hM1 := MapL.no hM1 hs4
  replace hM2 := MapL.no hM2 hs4
  replace hlo9 := Nat.le_trans hlo9 (hs4).size
  refine Tp 4 (Tl (fun w7 hr1 => hnd9.step hr1 (by (try simp only); omega)) (Tp 1 (Th ?_)))
  intro w8 hs5
  have hzhs5 := hs5.size
  replace hnd9 := hnd9.no hs5
  replace hlks := Lks.no hlks hs5
  replace hRow := hRow.no hs5
  replace hS := Step.trans hS hs5
  replace hA := hA.no hs5
  replace hnd := NdP.no hnd hs5
  replace hT1 := Tb.no hT1 hs5
  replace hM1 := MapL.no hM1 hs5
  replace hM2 := MapL.no hM2 hs5
  replace hlo9 := Nat.le_trans hlo9 (hs5).size
  have hzl18 := hnd9.lt
  refine Tc Tryz.call54 (gnew_any wait _) ?_ ?_
  ·rintro _ w9 ⟨gb9, rfl, hgb9, hG9, hc1⟩
   exact Step.mono hc1 (by intro i hi; first | exact hi.elim | exact .inl hi | ((try simp only at hi ⊢); omega))
  rintro _ w9 ⟨gb9, rfl, hgb9, hG9, hc1⟩
  replace hnd9 := hnd9.no hc1
  replace hlks := Lks.no hlks hc1
  replace hRow := hRow.no hc1
  replace hS := Step.trans hS hc1
  replace hA := hA.no hc1
  replace hnd := NdP.no hnd hc1
  replace hT1 := Tb.no hT1 hc1
  replace hM1 := MapL.no hM1 hc1
  replace hM2 := MapL.no hM2 hc1
  replace hlo9 := Nat.le_trans hlo9 (hc1).size
  refine Tp 1 (Th ?_)
  intro w10 hs6
  replace hnd9 := hnd9.no hs6
  replace hlks := Lks.no hlks hs6
  replace hRow := hRow.no hs6
  replace hS := Step.trans hS hs6
  replace hA := hA.no hs6
  replace hnd := NdP.no hnd hs6
  replace hT1 := Tb.no hT1 hs6
  replace hM1 := MapL.no hM1 hs6
  replace hM2 := MapL.no hM2 hs6
  replace hlo9 := Nat.le_trans hlo9 (hs6).size
  replace hG9 := GaOf.no hG9 hs6
  have hzl23 := hnd9.lt
  have hzl28 := GaOf.lt hG9
  refine VTc_box (d := 30) (t := 134) (c := #[I6 0, I6 0, Bo false, Pt gb9 0, Bo false]) (by kernel_rfl) (by kernel_rfl) (fun b w1 hn => hn.step _) ?_
  intro b3 w11 hn3
  replace hnd9 := hnd9.no (hn3.step No)
  replace hlks := Lks.no hlks (hn3.step No)
  replace hRow := hRow.no (hn3.step No)
  replace hS := Step.trans hS (hn3.step No)
  replace hA := hA.no (hn3.step No)
  replace hnd := NdP.no hnd (hn3.step No)
  replace hT1 := Tb.no hT1 (hn3.step No)
  replace hM1 := MapL.no hM1 (hn3.step No)
  replace hM2 := MapL.no hM2 (hn3.step No)
  replace hlo9 := Nat.le_trans hlo9 (hn3.step No).size
  replace hG9 := GaOf.no hG9 (hn3.step No)
  have ho3 := hn3.own
  have hzhn3 := hn3.size
  have hqhn3 := hn3.eqb
  have hlks2 := Lks.push hlks ho3 hG9 (fun h8 => by have h7 := hub9 _ (.inl h8); omega) (fun h8 => by have h7 := hub9 _ (.inr h8); omega) (by omega) (by omega)
  refine Th ?_
  intro w12 hs7
  replace hnd9 := hnd9.no hs7
  replace hRow := hRow.no hs7
  replace hS := Step.trans hS hs7
  replace hA := hA.no hs7
  replace hnd := NdP.no hnd hs7
  replace hT1 := Tb.no hT1 hs7
  replace hM1 := MapL.no hM1 hs7
  replace hM2 := MapL.no hM2 hs7
  replace hlo9 := Nat.le_trans hlo9 (hs7).size
  replace hlks2 := Lks.no hlks2 hs7
  refine VTc_bs (d := 31) (e := 130) (c := #[Pt b3 0]) (len := 1) (by kernel_rfl) (by kernel_rfl) (fun b w1 hn => hn.step _) ?_
  intro b4 w13 hn4
  replace hnd9 := hnd9.no (hn4.step No)
  replace hRow := hRow.no (hn4.step No)
  replace hS := Step.trans hS (hn4.step No)
  replace hA := hA.no (hn4.step No)
  replace hnd := NdP.no hnd (hn4.step No)
  replace hT1 := Tb.no hT1 (hn4.step No)
  replace hM1 := MapL.no hM1 (hn4.step No)
  replace hM2 := MapL.no hM2 (hn4.step No)
  replace hlo9 := Nat.le_trans hlo9 (hn4.step No).size
  replace hlks2 := Lks.no hlks2 (hn4.step No)
  have ho4 := hn4.own
  refine Th ?_
  intro w14 hs8
  replace hnd9 := hnd9.no hs8
  replace hRow := hRow.no hs8
  replace hS := Step.trans hS hs8
  replace hA := hA.no hs8
  replace hnd := NdP.no hnd hs8
  replace hT1 := Tb.no hT1 hs8
  replace hM1 := MapL.no hM1 hs8
  replace hM2 := MapL.no hM2 hs8
  replace hlo9 := Nat.le_trans hlo9 (hs8).size
  replace hlks2 := Lks.no hlks2 hs8
  replace ho4 := ho4.no hs8
  have hzk4 := hlo9
  refine VTc_appendZ (d := 32) (e := 130) (A := AL) (mm := j) (c := cL) (A2 := (some ⟨b4, 0, none⟩)) (m2 := 1) (c2 := 1) (sz := 1) (bytes := 8) (by kernel_rfl) (by kernel_rfl) (by kernel_rfl) lo9 w14.heap.size (flat lgc ls) (flat lgc [b3]) hRow (by rw [flat_one, lgc_len]) (Sl.mono (Sl.cast (Own.sl ho4 ho4.lt) (by first | rfl | simp [flat])) (by first | exact Nat.le_refl _ | omega)) (flat_one' lgc_one _) (j + 1) (by omega) (by simp only [maxLen]; omega) (by omega) (by omega) ?_ ?_
  ·intro w1 hs1; exact Step.mono hs1 (fun i hi => by have hi1 := (RwS.lt hRow i hi).1; (try simp only); omega)
  intro A1 c1 w15 hr2 hg1
  replace hr2 : RwS w15 1 lo9 130 A1 (j + 1) c1 (flat lgc (ls ++ ([b3]))) := RwS.cast hr2 rfl (by simp only [flat_append, flat_one, List.append_assoc, List.nil_append, List.append_nil, show flat lgc [] = [] from rfl])
  have hgO := hg1
  replace hg1 := Step.mono (G := fun k => lo9 ≤ k) hg1 (fun i hi => (RwS.lt hRow i hi).1)
  replace hnd9 := hnd9.step hg1 (by (try simp only); omega)
  replace hS := Step.transNew hS hg1 (fun i hi hG => by (try simp only at hG); omega)
  replace hA := hA.step hg1 (fun k hk hG => by (try simp only at hG); omega)
  replace hnd := NdP.step hnd hg1 (fun k9 hk9 hF9 => by have h8 := hNX k9 hk9; (try simp only at hF9); omega)
  replace hT1 := Tb.step hT1 hg1 (by (try simp only); omega)
  replace hM1 := MapL.step hM1 hg1 (by (try simp only); omega)
  replace hM2 := MapL.step hM2 hg1 (by (try simp only); omega)
  replace hlo9 := Nat.le_trans hlo9 (hg1).size
  replace hlks2 := Lks.row hlks2 hRow hgO
  have hlhr2 : (ls ++ ([b3])).length = j + 1 := by have hq9 := RwS.len hr2; rw [flat_len lgc_len] at hq9 <;> omega
  refine VT_end ?_
  intro w16 hs9
  replace hnd9 := hnd9.no hs9
  replace hS := Step.trans hS hs9
  replace hA := hA.no hs9
  replace hnd := NdP.no hnd hs9
  replace hT1 := Tb.no hT1 hs9
  replace hM1 := MapL.no hM1 hs9
  replace hM2 := MapL.no hM2 hs9
  replace hlo9 := Nat.le_trans hlo9 (hs9).size
  replace hlks2 := Lks.no hlks2 hs9
  replace hr2 := hr2.no hs9
  refine Vst 13 (o := 1) [.slice A1 (j + 1) c1] hnd9 #[Pt nd 0, .slice A1 (j + 1) c1, Pt tb 0, .map (some m1), .map (some m2), I6 tm.s, I6 tm.c, I6 tm.r, I6 wait, I6 0, I6 0, I6 0, I6 0, I6 0, I6 0, I6 0, I6 0, I6 0, I6 0, I6 0] ?_
  intro w17 hw1
  replace hS := Step.transNew hS hw1.step (fun _ _ _ => by omega)
  replace hA := hA.step hw1.step (fun k hk (hF : k = b2) => by omega)
  replace hnd := NdP.blk hnd hnd9 (by decide) hw1.step
  replace hT1 := Tb.step hT1 hw1.step (show ¬ tb = b2 by omega)
  replace hM1 := MapL.step hM1 hw1.step (show ¬ m1 = b2 by omega)
  replace hM2 := MapL.step hM2 hw1.step (show ¬ m2 = b2 by omega)
  replace hlo9 := Nat.le_trans hlo9 (hw1.step).size
  replace hlks2 := Lks.below hlks2 hw1.step (fun k9 hk9 => by have h8 : k9 = b2 := hk9; omega)
  replace hr2 := hr2.step hw1.step (fun k hk (hF : k = b2) => by omega)
  have ho5 := hw1.own
  refine Ve (VQ_block_normal (Vn (Vr (Vp 1 ?_))))
  have he1 : IntKind.wrap .i64 (((j : Nat) : Int) + 1) = ((j + 1 : Nat) : Int) := (by rw [wrap_i64 _ (by omega) (by omega)]; omega)
  refine Vq 35 (I6 (IntKind.wrap .i64 (((j : Nat) : Int) + 1))) (I6 ((j + 1 : Nat) : Int)) (by rw [he1]) (Ve (VQ_again ⟨j + 1, ls ++ [b3], gs ++ [gb9], A1, c1⟩ Su ?_ ?_))
  ·exact ⟨(by (try dsimp only); omega), (by (try dsimp only); simp only [List.length_append, List.length_singleton]; omega), ho5, hlks2, hr2, hS, hA, hnd, hT1, hM1, hM2, hlo9⟩
  ·(try dsimp only); omega
 ·refine VC_exit (VQ_then_exit (VQ_then_exit (VQ_block_hit (Vn (Vrp (VC_ret (Vr1 (Pt b2 0) ?_)))))))
  obtain rfl : j = min n 8 := by omega
  obtain ⟨X9, hX9, hq9⟩ := PnX.fresh (lo := w.heap.size) (rs := rs) (tm := tm) (wait := wait) (by rw [hn]; exact hlj) (Own.cast hnd9 (by rw [hn])) hnd hT1 hM1 hM2 (Lks.lower hlks (by omega)) (by rw [hn]; exact hRow) hxT hx1 hx2 hI5 (by omega) hbT hb1 hb2 (by omega)
  exact ⟨_, X9, rfl, hX9, hq9, hS⟩

end Go.Proofs.YtcablikikkmfjaaGreat
end

section
/- Layer 22: a plane by what it knows, as laws use it. -/
set_option linter.unusedVariables false
set_option linter.unusedSimpArgs false
namespace Go.Proofs.YtcablikikkmfjaaGreat
open Go.Vc Go.RowKit
section
variable {w w1 : World} {F : Nat → Prop} {p lo n : Nat} {X XB : Nat → Prop} {st : PS}
theorem PlP.low (h : PlP w p X XB lo st n) {k : Nat} (hk : X k) : lo ≤ k := by obtain ⟨g, h⟩ := h; exact h.lw k hk
theorem parr_way (h : PlP w p X XB lo st n) (hn : n < 1152921504606846000) {i : Nat} (hi : i < st.lk.length) {t : Int} (ht : st.now ≤ t ∧ t ≤ 1152921504606846976) {A : Option Addr} {m c9 : Nat} {XA : Nat → Prop} {hd : Hd} {ps : List Int} (hok : hdOk hd = true) (hps : ps.length = 48) (hb : Bytes ps) (hm : 53 = m) (hA : SlX w 5 XA A (iL .u8 (buildL hd ps))) (hc : m ≤ c9)
    (hk : kindH hd = 1 ∨ kindH hd = 7 ∨ kindH hd = 8) (hsg : ¬ (hd.v = 0 ∧ hd.c = 5)) {y : Wy} (hf : findW st.W ((i : Nat) : Int) hd.v hd.c = some y) : CV Tryz.prog 20 #[.pointer (some ⟨p, 0, none⟩), .int .i64 t, .int .i64 ((i : Nat) : Int), .slice A m c9] w fun x w1 => ∃ xo, x = .tuple #[xo, .int .i64 0] ∧ OutL w w1 xo (passO (recvS st i t (buildL hd ps)) y hd ps) ∧ PNext w p X XB lo (passS (recvS st i t (buildL hd ps)) ((i : Nat) : Int) hd.v hd.c y hd (kindH hd == 1)) (n + 1) w1 := by
  obtain ⟨g, h⟩ := h
  obtain ⟨l, hl⟩ : ∃ l, st.lk[i]? = some l := ⟨_, List.getElem?_eq_getElem hi⟩
  obtain ⟨e1, e2, e3, e4⟩ := parse_build (cf := l.cf) hok hps
  have hlen : (buildL hd ps).length = m := by rw [buildL_len hps, if_pos hok]; exact hm
  have hx : emptyH (parseH l.cf (buildL hd ps)) = false := by
    rw [e2]; unfold emptyH
    rcases hk with hk | hk | hk <;> rw [hk] <;> rfl
  have hs : ((kindH (parseH l.cf (buildL hd ps)) == 1) && ((parseH l.cf (buildL hd ps)).v == 0) && ((parseH l.cf (buildL hd ps)).c == 5)) = false := by
    rw [e2, Bool.eq_false_iff]
    intro h9
    simp only [Bool.and_eq_true, beq_iff_eq] at h9
    exact hsg ⟨h9.1.2, h9.2⟩
  have hf9 : findW (recvS st i t (buildL hd ps)).W ((i : Nat) : Int) (parseH l.cf (buildL hd ps)).v (parseH l.cf (buildL hd ps)).c = some y := by rw [e2]; exact hf
  have fin : ∀ x w1, (∃ xo, x = Value.tuple #[xo, .int .i64 0] ∧ OutL w w1 xo (passO (recvS st i t (buildL hd ps)) y (parseH l.cf (buildL hd ps)) (parseP l.cf (buildL hd ps))) ∧ PNext w p X XB lo (passS (recvS st i t (buildL hd ps)) ((i : Nat) : Int) (parseH l.cf (buildL hd ps)).v (parseH l.cf (buildL hd ps)).c y (parseH l.cf (buildL hd ps)) (kindH (parseH l.cf (buildL hd ps)) == 1)) (n + 1) w1) → ∃ xo, x = .tuple #[xo, .int .i64 0] ∧ OutL w w1 xo (passO (recvS st i t (buildL hd ps)) y hd ps) ∧ PNext w p X XB lo (passS (recvS st i t (buildL hd ps)) ((i : Nat) : Int) hd.v hd.c y hd (kindH hd == 1)) (n + 1) w1 := by
    intro x w1 h9
    rw [e2, e3] at h9
    exact h9
  have hbb : Bytes (buildL hd ps) := buildL_bytes hb
  rcases hk with hk | hk | hk
  · exact (arr_pass1 p lo X XB g st n w i l t A m c9 XA _ hl ht hlen hA hbb hc hn e1 hx (by rw [e2]; exact hk) hs y hf9 h).mono fin
  · exact (arr_pass7 p lo X XB g st n w i l t A m c9 XA _ hl ht hlen hA hbb hc hn e1 hx (by rw [e2]; exact hk) y hf9 h).mono fin
  · exact (arr_pass8 p lo X XB g st n w i l t A m c9 XA _ hl ht hlen hA hbb hc hn e1 hx (by rw [e2]; exact hk) y hf9 h).mono fin
end
end Go.Proofs.YtcablikikkmfjaaGreat
end

section
/- Layer 22: what a plane shows that does something, plain. -/
set_option linter.unusedVariables false
set_option linter.unusedSimpArgs false
namespace Go.Proofs.YtcablikikkmfjaaGreat
open Go.Vc Go.RowKit
def awT : Tm := ⟨0, 0, 0⟩
def awK : Con := ⟨7, 5, 0, 0, 0, 0⟩
def awZ : List Int := List.replicate 48 0
def aw0 : PS := newS [2000, 2000] awT 10
def aw1 : PS := openS aw0 0 0 40 1 3 50 awK
def awH : Hd := ⟨0, 0, 40, 2, 0⟩
def awG : Hd := ⟨0, 3, 50, 2, 1⟩
def aw2 : PS := recvS aw1 0 7 (buildL awH awZ)
def awY : Wy := newW aw0 0 0 40 1 3 50
def aw3 : PS := passS aw2 0 0 40 awY awH true
theorem aw_open : openK aw0 0 0 40 1 3 50 awK = 0 := by decide +kernel
theorem aw_find : findW aw1.W ((0 : Nat) : Int) awH.v awH.c = some awY := by
  unfold aw1 openS
  rw [if_pos aw_open]
  rfl
theorem aw_ver : verP aw2 awY awH = 2 := by
  have h1 : aw1 = { aw0 with L := takeN aw0.rooms aw0.L 1 3 50 awK, W := insW aw0.W awY } := by unfold aw1 openS; rw [if_pos aw_open]; rfl
  unfold aw2 verP recvS
  rw [h1]
  show verV (takeN (roomsN [2000, 2000]) [] 1 3 50 awK) 1 3 50 7 0 = 2
  decide +kernel
theorem aw_len : aw1.lk.length = 2 := by unfold aw1 openS; rw [if_pos aw_open]; rfl
theorem aw_now : aw1.now = 0 := by unfold aw1 openS; rw [if_pos aw_open]; rfl
theorem aw_out : passO aw2 awY awH awZ = [(1, buildL awG awZ)] := by unfold passO; rw [aw_ver]; rfl
theorem aw_cn : aw3.cn 7 = 1 := by
  unfold aw3 passS
  simp only [aw_ver]
  unfold aw2 recvS aw1 openS
  rw [if_pos aw_open]
  rfl
theorem aw_now3 : aw3.now = 7 := rfl
theorem awZ_len : awZ.length = 48 := List.length_replicate ..
theorem awZ_b : Bytes awZ := by intro x hx; have := (List.mem_replicate.1 hx).2; omega
theorem awH_ok : hdOk awH = true := by decide
theorem awG_ok : hdOk awG = true := by decide
end Go.Proofs.YtcablikikkmfjaaGreat
end

section
/- Layer 22: awake. -/
set_option linter.unusedVariables false
set_option linter.unusedSimpArgs false
set_option maxRecDepth 100000
set_option maxHeartbeats 4000000
namespace Go.Proofs.YtcablikikkmfjaaGreat
open Go.Vc Go.RowKit
theorem TPn1aa {P : Prop} (h : P := by first | exact ⟨⟨_, rfl⟩, ⟨_, rfl⟩, ⟨_, rfl⟩, ⟨_, rfl⟩, ⟨_, rfl⟩, trivial⟩ | trivial) : P := h

theorem rc_built {A : Option Addr} {c : Nat} {X : Nat → Prop} {hd : Hd} {ps : List Int} (b : Nat) (cf : Bool) (w : World) (hok : hdOk hd = true) (hps : ps.length = 48) (hb : Bytes ps) (hr : SlX w 5 X A (iL .u8 (buildL hd ps))) (hc : 53 ≤ c) {r d : Int} (ho : Own w b #[.int .i64 r, .int .i64 d, .bool cf] 72) : CV Tryz.prog 25 #[.slice A 53 c, .pointer (some ⟨b, 0, none⟩), .bool false] w fun x w1 => x = .tuple #[.agg (cellA hd ps), .int .i64 0] ∧ (∃ r' d', Own w1 b #[.int .i64 r', .int .i64 d', .bool false] 72) ∧ Step (Just b) w w1 := by
  obtain ⟨e1, e2, e3, e4⟩ := parse_build (cf := cf) hok hps
  refine (rcparse_any b r d cf A 53 c X _ w (by rw [buildL_len hps, if_pos hok]) hr (buildL_bytes hb) hc ho).mono ?_
  rintro x w1 ⟨rfl, h1, h2⟩
  rw [e1, e2, e3]
  rw [e4] at h1
  exact ⟨rfl, h1, h2⟩
theorem awake22 (w : World) :
  CV Tryz.prog 15 #[] w (fun x w1 => x = Bo true ∧ Step No w w1) := by
 have hS : Step No w w := Step.refl _ _
 refine VCe Tryz.func15 (Vrp (Vs (Vr ?_)))
 refine VL_bs (d := 9) (e := 3) (c := #[I6 2000, I6 2000]) (len := 2) (by kernel_rfl) (by kernel_rfl) ?_
 intro b1 w1 hn1
 replace hS := Step.trans hS (hn1.step No)
 have ho1 := hn1.own
 have hzhn1 := hn1.size
 have hqhn1 := hn1.eqb
 refine Vp 2 ?_
 refine Vc 2 Tryz.call16 (pnew_x (some ⟨b1, 0, none⟩) 2 2 _ [2000, 2000] awT 10 _ rfl (Own.sl ho1 ho1.lt) (by omega) (by omega)) ?_
 rintro _ w2 ⟨p, X, rfl, hP, hXlo, hc1⟩
 replace hS := Step.trans hS hc1
 replace ho1 := ho1.no hc1
 replace hP : PlP w2 p X nob _ aw0 0 := hP
 refine Ve (Vn (Vs (Vrp (Vf (VC_skip (Vn (Vs (Vr (Vp 4 ?_)))))))))
 refine Vc 4 Tryz.call17 (popen hP (by decide) 0 0 40 1 3 50 awK) ?_
 rintro _ w3 ⟨rfl, X1, XB1, hP1, hX1, hB1, hc2⟩
 replace hS := Step.transNew hS hc2 (fun i9 hi9 hX9 => by have h8 := PlP.low hP hX9; omega)
 replace ho1 := ho1.step hc2 (PlP.nx hP ho1 (by unfold PT0; decide))
 replace hP1 : PlP w3 p X1 XB1 _ aw1 (0 + 1) := hP1
 refine Ve (Vn (Vs (Vr (Vp 1 (VL_b1 (d := 21) (t := 45) (x := .agg #[I6 0, I6 0, I6 40, I6 2, I6 0]) (v := .agg (cellA (⟨0, 0, 40, 2, 0⟩ : Hd) (List.replicate 48 0))) (by kernel_rfl) (by kernel_rfl) (fun w9 => run_build_cell0 (h := (⟨0, 0, 40, 2, 0⟩ : Hd)) w9) ?_)))))
 refine Vc 2 Tryz.call19 (build_yes awH awZ _ awZ_len awH_ok) ?_
 rintro _ w4 ⟨A1, c1, rfl, hr1, hc3⟩
 replace hS := Step.trans hS hc3
 replace ho1 := ho1.no hc3
 replace hP1 := PlP.no hP1 hc3
 obtain ⟨base1, hbase1E⟩ : ∃ x, x = w3.heap.size := ⟨_, rfl⟩
 rw [← hbase1E] at hr1
 refine Ve (Vn (Vs (Vr (Vp 2 ?_))))
 refine Vc 2 Tryz.call20 (parr_way hP1 (by decide) (i := 0) (by rw [aw_len]; decide) (t := 7) (by rw [aw_now]; decide) awH_ok awZ_len awZ_b rfl (SlX.of_rw hr1 (X := fun _ => True) (fun _ _ => trivial)) (Rw.cap hr1) (.inl (by decide)) (by decide) aw_find) ?_
 rintro _ w5 ⟨xo, rfl, hO, X2, XB2, hP2, hX2, hB2, hc4⟩
 replace hS := Step.transNew hS hc4 (fun i9 hi9 hX9 => by have h8 := PlP.low hP1 hX9; omega)
 replace ho1 := ho1.step hc4 (PlP.nx hP1 ho1 (by unfold PT0; decide))
 replace hP2 : PlP w5 p X2 XB2 _ aw3 (0 + 1 + 1) := hP2
 rw [show recvS aw1 0 7 (buildL awH awZ) = aw2 from rfl, aw_out] at hO
 rcases hO with ⟨h9, _⟩ | ⟨q9, bs9, h9, bo, Ao, co, hxo, hob, hbo, hro⟩
 ·cases h9
 simp only [List.cons.injEq, Prod.mk.injEq, and_true] at h9
 obtain ⟨rfl, rfl⟩ := h9
 subst hxo
 obtain ⟨bz, hbz⟩ : ∃ x, x = w4.heap.size := ⟨_, rfl⟩
 rw [← hbz] at hro
 have hcap9 := Rw.cap hro
 have hro : SlX w5 5 (fun _ => True) Ao (iL .u8 (buildL awG awZ)) := SlX.of_rw hro (fun _ _ => trivial)
 refine Ve (Vn (Vs (Vs (Vr (Vp 3 (Vkn 33 ((openK aw0 0 0 40 1 3 50 awK) != 0) false (by rw [aw_open]; rfl) (Vp 13 (VL_index (d := 44) (b := bo) (o := 0) (len := 1) (sz := 2) (m := 0) (by kernel_rfl) (by kernel_rfl) 0 (by rfl) (by omega) 0 (by omega) (Vl 15 hob (Ve (Vn (Vf (VC_skip (Vn (Vs (Vr (Vp 1 (VL_index (d := 51) (b := bo) (o := 0) (len := 1) (sz := 2) (m := 0) (by kernel_rfl) (by kernel_rfl) 0 (by rfl) (by omega) 0 (by omega) (Vl 3 hob (Vp 5 ?_))))))))))))))))))))
 have hzl8 := ho1.lt
 refine Vx 5 72 #[I6 0, I6 0, Bo false] ?_
 intro b2 w6 hn2
 replace hS := Step.trans hS (hn2.step No)
 replace ho1 := ho1.no (hn2.step No)
 replace hP2 := PlP.no hP2 (hn2.step No)
 replace hro := hro.no (hn2.step No)
 have ho2 := hn2.own
 have hzhn2 := hn2.size
 have hqhn2 := hn2.eqb
 refine Vc 6 Tryz.call25 (rc_built b2 false _ awG_ok awZ_len awZ_b hro hcap9 ho2) ?_
 rintro _ w7 ⟨rfl, ⟨r1, d1, hrc⟩, hc5⟩
 replace hS := Step.transNew hS hc5 (fun _ _ _ => by omega)
 replace ho1 := ho1.step hc5 (show ¬ b1 = b2 by omega)
 replace hP2 := PlP.blk hP2 ho2 (by unfold PT0; decide) (by decide) hc5
 refine Vp 10 ?_
 have hzl15 := ho1.lt
 refine Vx 10 45 (cellA Hd.z (List.replicate 48 0)) ?_
 intro b3 w8 hn3
 replace hS := Step.trans hS (hn3.step No)
 replace hP2 := PlP.no hP2 (hn3.step No)
 have ho3 := hn3.own
 have hzhn3 := hn3.size
 have hqhn3 := hn3.eqb
 refine VL_storeC (b := b3) (h' := awG) (ps := awZ) (by kernel_rfl) (by kernel_rfl) ho3 awZ_len (List.length_replicate ..) ?_
 intro w9 hw1
 replace hS := Step.transNew hS hw1.step (fun _ _ _ => by omega)
 replace hP2 := PlP.blk hP2 ho3 (by unfold PT0; decide) (by decide) hw1.step
 have ho4 : Own w9 b3 (cellA awG awZ) 45 := hw1.own
 refine Ve (Vn (Vs (Vr (Vla 4 (t := 40) (a := ⟨b3, 0, none⟩) (v := .agg #[I6 awG.g, I6 awG.v, I6 awG.c, I6 awG.p, I6 awG.l]) (Loads.cellH ho4 (by kernel_rfl)) (Vp 6 (VL_agEq (d := 65) (dd := 9) (ls := ([.int .i64] ++ [.int .i64] ++ [.int .i64] ++ [.int .i64] ++ [.int .i64] ++ [])) (pos := true) (t := 40) (xs := #[I6 awG.g, I6 awG.v, I6 awG.c, I6 awG.p, I6 awG.l]) (ys := #[I6 0, I6 3, I6 50, I6 2, I6 1]) (by kernel_rfl) (by kernel_rfl) (by kernel_rfl) (by kernel_rfl) TPn1aa TPn1aa (cellsEq #[I6 awG.g, I6 awG.v, I6 awG.c, I6 awG.p, I6 awG.l].toList #[I6 0, I6 3, I6 50, I6 2, I6 1].toList) (by rfl) (Vp 9 (Vkn 67 (cellsEq #[I6 awG.g, I6 awG.v, I6 awG.c, I6 awG.p, I6 awG.l].toList #[I6 0, I6 3, I6 50, I6 2, I6 1].toList) true (by decide) (Vp 10 ?_)))))))))
 refine Vc 10 Tryz.call29 (pcounts hP2) ?_
 rintro _ w10 ⟨rfl, hc6⟩
 replace hS := Step.trans hS hc6
 replace hP2 := PlP.no hP2 hc6
 refine Vp 15 (Vkn 73 ((aw3.cn 7) == 1) true (by rw [aw_cn]; rfl) (Vp 16 ?_))
 refine Vc 16 Tryz.call28 (pnow hP2) ?_
 rintro _ w11 ⟨rfl, hc7⟩
 replace hS := Step.trans hS hc7
 refine Ve (Vn (VC_ret (Vr1 (Bo (aw3.now == 7)) ?_)))
 exact ⟨congrArg Value.bool (by first | decide | (rw [aw_now3]; rfl)), hS⟩

end Go.Proofs.YtcablikikkmfjaaGreat
end

section
/- Layer 22: PlaneNil. -/
set_option linter.unusedVariables false
set_option linter.unusedSimpArgs false
set_option maxRecDepth 100000
set_option maxHeartbeats 4000000
namespace Go.Proofs.YtcablikikkmfjaaGreat
open Go.Vc Go.RowKit
theorem TPnNilaa {P : Prop} (h : P := by first | exact ⟨⟨_, rfl⟩, ⟨_, rfl⟩, ⟨_, rfl⟩, ⟨_, rfl⟩, ⟨_, rfl⟩, ⟨_, rfl⟩, ⟨_, rfl⟩, ⟨_, rfl⟩, ⟨_, rfl⟩, trivial⟩ | trivial) : P := h

theorem nways1_nil (L : Nat) (B : Nat) (w : World) (J Jx : Nat → Nat → World → Prop) (M : Nat) (hJn : ∀ M k W W', J M k W → Step No W W' → J M k W') (hrd : ∀ M k W, J M k W → Own W B #[.pointer none] 28) (hJ : J M 0 w) :
  CV Tryz.prog 74 #[.func (.yield L) #[] #[], Pt B 0] w (fun _ w1 => J M 0 w1 ∨ ∃ k, k ≤ 0 ∧ Jx M k w1) := by
 have hB := hrd _ _ _ hJ
 refine VCm Tryz.func74 (Vs (Vr ?_))
 refine Vx 0 164 #[.func (.yield L) #[] #[]] ?_
 intro b1 w1 hn1
 replace hJ := hJn _ _ _ _ hJ (hn1.step No)
 replace hB := hB.no (hn1.step No)
 refine Ve (Vn (Vs (Vs (Vr (Vl 0 hB (Ve (Vn (Vt (VC_ret (VQ_then_ret ?_))))))))))
 refine VQ_retM0 [] (.inr rfl) rfl trivial ?_
 intro w2 hq1
 replace hq1 : Step No w1 w2 := Step.mono hq1 (fun i hi => by simp at hi)
 replace hJ := hJn _ _ _ _ hJ hq1
 exact .inl hJ

theorem nways_iter (B : Nat) : IterC Tryz.prog 74 #[.pointer (some ⟨B, 0, none⟩)] ([] : List (Array Value)) (fun _ W => Own W B #[.pointer none] 28) := by
  intro L W0 J Jx hJn hJxn hrd hrd0 h0 hy
  exact CV.mono (nways1_nil L B W0 J Jx W0.heap.size hJn hrd (h0 _ _ (Nat.le_refl _) (Nat.le_refl _) (Step.refl _ _))) fun v W' hh => ⟨_, Nat.le_refl _, hh⟩
theorem planeNil_any (t q : Int) (A : Option Addr) (n c : Nat) (w : World) :
  CV Tryz.prog 13 #[I6 t, I6 q, .slice A n c] w (fun x w1 => x = Bo true ∧ Step No w w1) := by
 have hS : Step No w w := Step.refl _ _
 refine VCm Tryz.func13 (Vrp (Vs (Vs (Vr ?_))))
 refine Vc 0 (args := #[]) Tryz.call15 (awake22 _) ?_
 rintro _ w1 ⟨rfl, hc1⟩
 replace hS := Step.trans hS hc1
 refine Ve (Vn (Vid (((n : Nat) : Int) > 200) (fun h1 => ?_) (fun h1 => ?_)))
 ·refine Vs (Vr ?_)
  refine Vc 0 (args := #[]) Tryz.call15 (awake22 _) ?_
  rintro _ w2 ⟨rfl, hc2⟩
  replace hS := Step.trans hS hc2
  refine Ve (Vn (VC_ret (VQ_then_ret ?_)))
  refine VrM (Bo true) (Ds := []) trivial ?_
  intro w3 hq1
  replace hq1 : Step No w2 w3 := Step.mono hq1 (fun i hi => by simp at hi)
  replace hS := Step.trans hS hq1
  exact ⟨rfl, hS⟩
 ·refine VC_skip (Vn (Vrp (Vs (Vr (Vp 2 ?_)))))
  refine Vc 2 (args := #[.pointer none, I6 q, Bo true]) Tryz.call44 (plink_nil _ _ _) ?_
  rintro _ w4 ⟨rfl, hc3⟩
  replace hS := Step.trans hS hc3
  refine Ve (Vn (Vs (Vr (Vp 4 ?_))))
  refine Vc 4 (args := #[.pointer none, I6 t, I6 q, .slice A n c]) Tryz.call20 (arrive_nil _ _ _ _ _ _) ?_
  rintro _ w5 ⟨rfl, hc4⟩
  replace hS := Step.trans hS hc4
  refine Ve (Vn (Vs (Vr (Vp 2 ?_))))
  refine Vc 2 (args := #[.pointer none, I6 t]) Tryz.call35 (tick_nil _ _) ?_
  rintro _ w6 ⟨rfl, hc5⟩
  replace hS := Step.trans hS hc5
  refine Ve (Vn (Vs (Vr (Vp 3 ?_))))
  refine Vc 3 (args := #[.pointer none, I6 t, I6 q, I6 1]) Tryz.call34 (hangup_nil _ _ _ _) ?_
  rintro _ w7 ⟨rfl, hc6⟩
  replace hS := Step.trans hS hc6
  refine Ve (Vn (Vs (Vr (Vp 2 ?_))))
  refine Vc 2 (args := #[.pointer none, .agg #[I6 0, I6 0, I6 0]]) Tryz.call37 (contract_nil _ _ _ _) ?_
  rintro _ w8 ⟨rfl, hc7⟩
  replace hS := Step.trans hS hc7
  refine Vp 6 ?_
  have hzs9 := hS.size
  refine Vx 6 23 #[I6 0, I6 0, I6 0, I6 0, I6 0, I6 0] ?_
  intro b1 w9 hn1
  replace hS := Step.trans hS (hn1.step No)
  have ho1 := hn1.own
  have hzhn1 := hn1.size
  have hqhn1 := hn1.eqb
  refine Vst 7 (o := 0) [I6 0, I6 0, I6 0, I6 0, I6 0, I6 0] ho1 #[I6 0, I6 0, I6 0, I6 0, I6 0, I6 0] ?_
  intro w10 hw1
  replace hS := Step.transNew hS hw1.step (fun _ _ _ => by omega)
  have ho2 := hw1.own
  have hzhw1 := hw1.same
  refine Ve (Vn (Vs (Vr ?_)))
  refine Vx 0 3 #[I6 0] ?_
  intro b2 w11 hn2
  replace hS := Step.trans hS (hn2.step No)
  replace ho2 := ho2.no (hn2.step No)
  have ho3 := hn2.own
  have hzhn2 := hn2.size
  have hqhn2 := hn2.eqb
  refine Vst 1 (o := 0) [I6 0] ho3 #[I6 0] ?_
  intro w12 hw2
  replace hS := Step.transNew hS hw2.step (fun _ _ _ => by omega)
  replace ho2 := ho2.step hw2.step (show ¬ b1 = b2 by omega)
  have ho4 := hw2.own
  have hzhw2 := hw2.same
  refine Ve (Vn (Vs (Vs (Vr (Vp 1 ?_)))))
  refine Vc 1 (args := #[.pointer none]) Tryz.call30 (ways_nil _) ?_
  rintro _ w13 ⟨bb1, rfl, hfbb1, hbb1, hc8⟩
  replace hS := Step.trans hS hc8
  replace ho2 := ho2.no hc8
  replace ho4 := ho4.no hc8
  have hzbb1 := hbb1.lt
  refine Ve (Vn (VC_block ?_))
  have hzs12 := hS.size
  have hzl5 := ho4.lt
  refine VC_range (gf := 74) (lb := #[Pt bb1 0]) (xs := ([] : List (Array Value))) (by kernel_rfl) Tryz.call74 (nways_iter bb1) (fun a ha => nomatch ha) (by kernel_rfl) (fun _ _ => False) (fun M i hi => hi.elim) (fun _ k W => (Step No w W) ∧ (Own W b1 #[I6 0, I6 0, I6 0, I6 0, I6 0, I6 0] 23) ∧ (Own W b2 #[I6 0] 3) ∧ (Own W bb1 #[.pointer none] 28)) (fun _ _ => False) (by rintro M k W W' ⟨hS, ho2, ho4, hbb1⟩ hs; exact ⟨Step.transNew hS hs (fun i hi hG => by have : i = (w13.heap.size + 1) := hG; omega), ho2.step hs (show ¬ b1 = (w13.heap.size + 1) by omega), ho4.step hs (show ¬ b2 = (w13.heap.size + 1) by omega), hbb1.step hs (show ¬ bb1 = (w13.heap.size + 1) by omega)⟩) (fun _ _ _ h _ => h.elim) (by rintro M k W W' ⟨hS, ho2, ho4, hbb1⟩ hs; exact ⟨Step.trans hS hs, ho2.no hs, ho4.no hs, hbb1.no hs⟩) (fun _ _ _ h _ => h.elim) (by rintro M k W ⟨hS, ho2, ho4, hbb1⟩; exact hbb1) (fun W hs => hbb1.no hs) (fun M W hM hM2 hs _ => ⟨Step.trans hS hs, ho2.no hs, ho4.no hs, hbb1.no hs⟩) ?_ ?_ ?_
  ·intro M k w14 args hM hM2 hx hJ0 hsz
   cases hx
  ·intro M w15 hM hzM hJ0 hD
   obtain ⟨hS, ho2, ho4, hbb1⟩ := hJ0
   have hmk1 := hD
   refine VQ_block_normal (Vn (Vs (Vr (Vl 15 ho4 (Vp 23 ?_)))))
   refine Vc 23 (args := #[.pointer none, .agg #[I6 0, I6 0, I6 0], .agg #[I6 0, I6 0, I6 0], .agg #[I6 0, I6 0, I6 0, I6 0, I6 0, I6 0]]) Tryz.call17 (open_nil _) ?_
   rintro _ w16 ⟨rfl, hc9⟩
   replace hS := Step.trans hS hc9
   replace hmk1 := hmk1.no hc9
   refine Vp 29 ?_
   refine Vc 29 (args := #[.pointer none, .agg #[I6 0, I6 0, I6 0]]) Tryz.call45 (close_nil _ _ _ _) ?_
   rintro _ w17 ⟨rfl, hc10⟩
   replace hS := Step.trans hS hc10
   replace hmk1 := hmk1.no hc10
   refine Vp 34 ?_
   refine Vc 34 (args := #[.pointer none]) Tryz.call28 (now_nil _) ?_
   rintro _ w18 ⟨rfl, hc11⟩
   replace hS := Step.trans hS hc11
   replace hmk1 := hmk1.no hc11
   refine Vp 37 ?_
   refine Vc 37 (args := #[.pointer none, I6 q]) Tryz.call36 (used_nil _ _) ?_
   rintro _ w19 ⟨rfl, hc12⟩
   replace hS := Step.trans hS hc12
   replace hmk1 := hmk1.no hc12
   refine Vp 41 ?_
   refine Vc 41 (args := #[.pointer none, I6 q, I6 1]) Tryz.call32 (phase_nil _ _ _) ?_
   rintro _ w20 ⟨rfl, hc13⟩
   replace hS := Step.trans hS hc13
   replace hmk1 := hmk1.no hc13
   refine Vp 47 ?_
   refine Vc 47 (args := #[.pointer none]) Tryz.call29 (counts_nil _) ?_
   rintro _ w21 ⟨rfl, hc14⟩
   replace hS := Step.trans hS hc14
   replace hmk1 := hmk1.no hc14
   refine Vp 49 (VL_agEq (d := 110) (dd := 9) (ls := (rep 9 [.int .i64])) (pos := true) (t := 77) (xs := #[I6 0, I6 0, I6 0, I6 0, I6 0, I6 0, I6 0, I6 0, I6 0]) (ys := #[I6 0, I6 0, I6 0, I6 0, I6 0, I6 0, I6 0, I6 0, I6 0]) (by kernel_rfl) (by kernel_rfl) (by kernel_rfl) (by kernel_rfl) TPnNilaa TPnNilaa (cellsEq #[I6 0, I6 0, I6 0, I6 0, I6 0, I6 0, I6 0, I6 0, I6 0].toList #[I6 0, I6 0, I6 0, I6 0, I6 0, I6 0, I6 0, I6 0, I6 0].toList) (by rfl) (Ve (Vn (VC_ret ?_))))
   refine VrM (Bo (cellsEq #[I6 0, I6 0, I6 0, I6 0, I6 0, I6 0, I6 0, I6 0, I6 0].toList #[I6 0, I6 0, I6 0, I6 0, I6 0, I6 0, I6 0, I6 0, I6 0].toList)) (Ds := [w13.heap.size]) ⟨hmk1, (by simp), trivial⟩ ?_
   intro w22 hq2
   replace hq2 : Step (Just w13.heap.size) w21 w22 := Step.mono hq2 (fun i hi => by simpa using hi)
   replace hS := Step.transNew hS hq2 (fun _ _ _ => by omega)
   exact ⟨rfl, hS⟩
  ·intro e W _ hF _; exact hF.elim

end Go.Proofs.YtcablikikkmfjaaGreat
end
