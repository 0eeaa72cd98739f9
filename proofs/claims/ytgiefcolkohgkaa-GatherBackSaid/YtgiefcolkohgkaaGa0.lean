/- Layer 11: frames out of their parts: what a gather is, and what it does, without Go. -/
import Derived.Test.YtgiefcolkohgkaaVc18
import Derived.Test.YtgiefcolkohgkaaFr8
import Derived.Test.YtgiefcolkohgkaaFr6
set_option linter.unusedVariables false
set_option linter.unusedSimpArgs false
namespace Go.Vc
open Go.RowKit
/-- A view whose block has the type e, and is one of X. -/
def SlX (w : World) (e : TypeId) (X : Nat → Prop) (A : Option Addr) (xs : List Value) : Prop :=
  0 < xs.length → ∃ b o, A = some ⟨b, o, none⟩ ∧ X b ∧ TyB w e b ∧ ∀ j u, xs[j]? = some u → w.cell? ⟨b, o + j, none⟩ = some u
section
variable {F X Y : Nat → Prop} {w w' : World} {e e' : TypeId} {A : Option Addr} {xs ys : List Value}
theorem TyB.lt {b : Nat} (h : TyB w e b) : b < w.heap.size := by
  obtain ⟨c, fr, h⟩ := h
  exact (Array.getElem?_eq_some_iff.1 h).1
theorem TyB.step {b : Nat} (h : TyB w e b) (hs : Step F w w') (hF : ¬ F b) : TyB w' e b := by
  have hl := h.lt
  obtain ⟨c, fr, h⟩ := h
  exact ⟨c, fr, (hs.block b hl hF).trans h⟩
theorem SlX.nil : SlX w e X A [] := fun h => by simp at h
theorem SlX.keep (h : SlX w e X A xs) (hs : Step F w w') (hF : ∀ b, X b → TyB w e b → ¬ F b) : SlX w' e X A xs := by
  intro h0
  obtain ⟨b, o, hA, hx, ht, hc⟩ := h h0
  have hn := hF b hx ht
  exact ⟨b, o, hA, hx, ht.step hs hn, fun j u hu => hs.cell hn (hc j u hu)⟩
theorem SlX.no (h : SlX w e X A xs) (hs : Step No w w') : SlX w' e X A xs := h.keep hs fun _ _ _ => id
theorem SlX.own {q : Nat} {cs : Array Value} (h : SlX w e X A xs) (ho : Own w q cs e') (hne : e ≠ e') (hs : Step (Just q) w w') : SlX w' e X A xs :=
  h.keep hs fun b _ ht (hb : b = q) => ht.ne ho hne hb
theorem SlX.mark {L : Nat} (h : SlX w e X A xs) (hX : ∀ b, X b → b ≠ L) (hs : Step (Just L) w w') : SlX w' e X A xs :=
  h.keep hs fun b hx _ (hb : b = L) => hX b hx hb
theorem SlX.mono (h : SlX w e X A xs) (hX : ∀ b, X b → b < w.heap.size → Y b) : SlX w e Y A xs := by
  intro h0
  obtain ⟨b, o, hA, hx, ht, hc⟩ := h h0
  exact ⟨b, o, hA, hX b hx ht.lt, ht, hc⟩
theorem SlX.sl (h : SlX w e X A xs) : Sl w w.heap.size A xs := by
  intro h0
  obtain ⟨b, o, hA, hx, ht, hc⟩ := h h0
  exact ⟨b, o, hA, ht.lt, hc⟩
theorem SlX.takeI {k : IntKind} {bs : List Int} (h : SlX w e X A (iL k bs)) (m : Nat) : SlX w e X A (iL k (bs.take m)) := by
  intro h0
  obtain ⟨b, o, hA, hx, ht, hc⟩ := h (by simp at h0 ⊢; omega)
  exact ⟨b, o, hA, hx, ht, fun j u hu => hc j u (by rw [iL_take, List.getElem?_take] at hu; split at hu <;> simp_all)⟩
theorem SlX.below {B : Nat} (h : SlX w e (fun k9 => k9 < B) A xs) : Sl w B A xs := by
  intro h0
  obtain ⟨b, o, hA, hx, ht, hc⟩ := h h0
  exact ⟨b, o, hA, hx, hc⟩
theorem SlX.cast (h : SlX w e X A xs) (he : xs = ys) : SlX w e X A ys := he ▸ h
theorem SlX.of_rw {base n c : Nat} (h : Rw w base e A n c xs) (hX : ∀ k, base ≤ k → X k) : SlX w e X A xs := by
  intro h0
  have hl := h.len
  obtain ⟨g, cur, rfl, hb, hg, ho, hs, hn, hm, ht⟩ := h.open (by omega)
  refine ⟨g, 0, rfl, hX g hb, ⟨cur, (0, 0), ho⟩, fun j u hu => ?_⟩
  rw [Nat.zero_add, ho.cell, ← ht] at *
  rw [List.getElem?_take] at hu
  split at hu
  · simpa using hu
  · cases hu
end
end Go.Vc
namespace Go.Proofs.Ytgiefcolkohgkaa
open Go.Vc Go.RowKit
/-- A gather. -/
structure Ga where
  wait : Int
  began : Int
  lost : Int
  bs : List Int
  sk : Bool
def tickB (g : Ga) (t : Int) : Bool := !(decide (g.bs.length = 0) || decide (t - g.began < g.wait))
def loseF (g : Ga) : Ga := { g with bs := [], lost := g.lost + 1 }
def tickF (g : Ga) (t : Int) : Ga := bif tickB g t then loseF g else g
def gaddF (g : Ga) (t : Int) (p : List Int) : Ga := { g with began := if g.bs = [] then t else g.began, bs := g.bs ++ p }
def lostE (e l : Int) : Int := if e = 0 then l else l + 1
theorem lostE_rng (e l : Int) : l ≤ lostE e l ∧ lostE e l ≤ l + 1 := by
  unfold lostE
  by_cases h : e = 0
  · rw [if_pos h]; omega
  · rw [if_neg h]; omega
def outF (g : Ga) (ps : List Int) : Ga := { g with bs := [], lost := lostE (unE ps) g.lost }
theorem tick_0 {g : Ga} {t : Int} (h : g.bs.length = 0) : tickB g t = false := by simp [tickB, h]
theorem tick_1 {g : Ga} {t : Int} (h : t - g.began < g.wait) : tickB g t = false := by simp [tickB, h]
theorem tick_2 {g : Ga} {t : Int} (h0 : ¬ g.bs.length = 0) (h : ¬ t - g.began < g.wait) : tickB g t = true := by
  unfold tickB
  rw [decide_eq_false h0, decide_eq_false h]; rfl
theorem tick_no {g : Ga} {t : Int} (h : tickB g t = false) : tickF g t = g := by unfold tickF; rw [h]; rfl
theorem tick_yes {g : Ga} {t : Int} (h : tickB g t = true) : tickF g t = loseF g := by unfold tickF; rw [h]; rfl
/-- A part that is taken: the gather behind it. -/
def takeF (g : Ga) (t : Int) (p : List Int) (last : Bool) : Ga :=
  let g1 := tickF g t
  bif g1.sk then { g1 with sk := !last }
  else let g2 := gaddF g1 t p
    bif last then outF g2 g2.bs
    else if g2.bs.length < 1008 then g2 else { loseF g2 with sk := true }
/-- Its text, its mark, its error. -/
def takeT (g : Ga) (t : Int) (p : List Int) (last : Bool) : List Int := bif (tickF g t).sk then [] else bif last then unT ((tickF g t).bs ++ p) else []
def takeM (g : Ga) (t : Int) (p : List Int) (last : Bool) : Int := bif (tickF g t).sk then 0 else bif last then unM ((tickF g t).bs ++ p) else 0
def takeE (g : Ga) (t : Int) (p : List Int) (last : Bool) : Int := bif (tickF g t).sk then 2 else bif last then unE ((tickF g t).bs ++ p) else if ((tickF g t).bs ++ p).length < 1008 then 2 else 6
/-- What a gather may be. -/
structure GaI (g : Ga) (k : Nat) : Prop where
  len : ∃ m, m ≤ 20 ∧ g.bs.length = 48 * m
  byt : Bytes g.bs
  b0 : 0 ≤ g.began
  b1 : g.began ≤ 1152921504606846976
  l0 : 0 ≤ g.lost
  l1 : g.lost ≤ k
theorem take_skip {g : Ga} {t : Int} {p : List Int} {last : Bool} (h : (tickF g t).sk = true) : takeF g t p last = { tickF g t with sk := !last } ∧ takeT g t p last = [] ∧ takeM g t p last = 0 ∧ takeE g t p last = 2 := by
  unfold takeF takeT takeM takeE
  simp only [h, cond_true, and_self]
theorem take_more {g : Ga} {t : Int} {p : List Int} (h : (tickF g t).sk = false) (hl : (gaddF (tickF g t) t p).bs.length < 1008) : takeF g t p false = gaddF (tickF g t) t p ∧ takeT g t p false = [] ∧ takeM g t p false = 0 ∧ takeE g t p false = 2 := by
  unfold takeF takeT takeM takeE
  have hl' : ((tickF g t).bs ++ p).length < 1008 := hl
  simp only [h, cond_false, and_self, if_pos hl, if_pos hl']
theorem take_long {g : Ga} {t : Int} {p : List Int} (h : (tickF g t).sk = false) (hl : ¬ (gaddF (tickF g t) t p).bs.length < 1008) : takeF g t p false = { loseF (gaddF (tickF g t) t p) with sk := true } ∧ takeT g t p false = [] ∧ takeM g t p false = 0 ∧ takeE g t p false = 6 := by
  unfold takeF takeT takeM takeE
  have hl' : ¬ ((tickF g t).bs ++ p).length < 1008 := hl
  simp only [h, cond_false, and_self, if_neg hl, if_neg hl']
theorem take_last {g : Ga} {t : Int} {p : List Int} (h : (tickF g t).sk = false) : takeF g t p true = outF (gaddF (tickF g t) t p) (gaddF (tickF g t) t p).bs ∧ takeT g t p true = unT (gaddF (tickF g t) t p).bs ∧ takeM g t p true = unM (gaddF (tickF g t) t p).bs ∧ takeE g t p true = unE (gaddF (tickF g t) t p).bs := by
  unfold takeF takeT takeM takeE
  simp only [h, cond_false, cond_true, gaddF, and_self]
theorem GaI.add {g : Ga} {k : Nat} {t : Int} {p : List Int} (h : GaI g k) (hp : p.length = 48) (hb : Bytes p) : Bytes (gaddF g t p).bs ∧ (gaddF g t p).bs.length ≤ 1008 ∧ (gaddF g t p).bs.length % 48 = 0 ∧ (gaddF g t p).lost = g.lost := by
  obtain ⟨m, hm, hl⟩ := h.len
  have hl2 : (gaddF g t p).bs.length = 48 * (m + 1) := by simp only [gaddF, List.length_append]; omega
  exact ⟨h.byt.app hb, by omega, by omega, rfl⟩
theorem out_0 {g : Ga} {ps : List Int} (h : unE ps = 0) : { g with bs := [] } = outF g ps := by unfold outF lostE; rw [if_pos h]
theorem out_1 {g : Ga} {ps : List Int} (h : unE ps ≠ 0) : { g with bs := [], lost := g.lost + 1 } = outF g ps := by unfold outF lostE; rw [if_neg h]
def GaOf (w : World) (T p : Nat) (X : Nat → Prop) (g : Ga) : Prop :=
  ∃ A c, Own w p #[.int .i64 g.wait, .int .i64 g.began, .int .i64 g.lost, .slice A g.bs.length c, .bool g.sk] T ∧ SlX w 5 X A (iL .u8 g.bs) ∧ g.bs.length ≤ c
section
variable {w w' : World} {T T' p p' : Nat} {X Y : Nat → Prop} {g g' : Ga}
theorem GaOf.no (h : GaOf w T p X g) (hs : Step No w w') : GaOf w' T p X g := by
  obtain ⟨A, c, ho, hv, hc⟩ := h
  exact ⟨A, c, ho.no hs, hv.no hs, hc⟩
theorem GaOf.keep {q : Nat} {cs : Array Value} {e : TypeId} (h : GaOf w T p X g) (ho : Own w q cs e) (hne : 5 ≠ e) (hq : p ≠ q) (hs : Step (Just q) w w') : GaOf w' T p X g := by
  obtain ⟨A, c, h1, hv, hc⟩ := h
  exact ⟨A, c, h1.step hs hq, hv.own ho hne hs, hc⟩
theorem GaOf.other (h : GaOf w T p X g) (h' : GaOf w T' p' Y g') (hne : 5 ≠ T') (hq : p ≠ p') (hs : Step (Just p') w w') : GaOf w' T p X g := by
  obtain ⟨A, c, ho, hv, hc⟩ := h'
  exact h.keep ho hne hq hs
theorem GaOf.mark {L : Nat} (h : GaOf w T p X g) (hX : ∀ b, X b → b ≠ L) (hp : p ≠ L) (hs : Step (Just L) w w') : GaOf w' T p X g := by
  obtain ⟨A, c, h1, hv, hc⟩ := h
  exact ⟨A, c, h1.step hs hp, hv.mark hX hs, hc⟩
theorem GaOf.mono (h : GaOf w T p X g) (hX : ∀ b, X b → b < w.heap.size → Y b) : GaOf w T p Y g := by
  obtain ⟨A, c, h1, hv, hc⟩ := h
  exact ⟨A, c, h1, hv.mono hX, hc⟩
theorem GaOf.lt (h : GaOf w T p X g) : p < w.heap.size := by
  obtain ⟨A, c, h1, hv, hc⟩ := h
  exact h1.lt
theorem GaOf.cast (h : GaOf w T p X g) (e : g = g') : GaOf w T p X g' := e ▸ h
end
theorem putL_two {bs ps : List Int} {n m o : Nat} (hn : bs.length = n) (hm : ps.length = m) (ho : o = n) : putL (putL (List.replicate (n + m) 0) 0 bs) o ps = bs ++ ps := by
  subst ho
  subst hn
  subst hm
  unfold putL
  simp
theorem loseF_sk (g : Ga) : (loseF g).sk = g.sk := rfl
theorem GaI.mono {g : Ga} {k k' : Nat} (h : GaI g k) (hk : k ≤ k') : GaI g k' := ⟨h.len, h.byt, h.b0, h.b1, h.l0, by have := h.l1; omega⟩
theorem GaI.lose {g : Ga} {k : Nat} (h : GaI g k) : GaI (loseF g) (k + 1) := ⟨⟨0, by omega, rfl⟩, Bytes.nil, h.b0, h.b1, by have := h.l0; simp only [loseF]; omega, by have := h.l1; simp only [loseF]; omega⟩
theorem GaI.tick {g : Ga} {k : Nat} (h : GaI g k) (t : Int) : GaI (tickF g t) (k + 1) := by
  unfold tickF
  cases tickB g t
  · exact h.mono (by omega)
  · exact h.lose
theorem GaI.skip {g : Ga} {k : Nat} (h : GaI g k) (b : Bool) : GaI { g with sk := b } k := ⟨h.len, h.byt, h.b0, h.b1, h.l0, h.l1⟩
theorem GaI.out {g : Ga} {k : Nat} (h : GaI g k) (ps : List Int) : GaI (outF g ps) (k + 1) := by
  refine ⟨⟨0, by omega, rfl⟩, Bytes.nil, h.b0, h.b1, ?_, ?_⟩
  · have := h.l0; have := lostE_rng (unE ps) g.lost; simp only [outF]; omega
  · have := h.l1; have := lostE_rng (unE ps) g.lost; simp only [outF]; omega
theorem GaI.new (m : Int) : GaI ⟨m, 0, 0, [], false⟩ 0 := ⟨⟨0, by omega, rfl⟩, Bytes.nil, by simp, by simp, by simp, by simp⟩
theorem GaI.take {g : Ga} {k : Nat} (h : GaI g k) {t : Int} {p : List Int} (last : Bool) (h0 : 0 ≤ t) (h1 : t ≤ 1152921504606846976) (hp : p.length = 48) (hb : Bytes p) : GaI (takeF g t p last) (k + 3) := by
  unfold takeF
  dsimp only
  have h2 := h.tick t
  generalize tickF g t = g1 at h2
  cases hs : g1.sk
  · simp only [cond_false]
    have hb2 : 0 ≤ (gaddF g1 t p).began ∧ (gaddF g1 t p).began ≤ 1152921504606846976 := by
      simp only [gaddF]
      have := h2.b0
      have := h2.b1
      split <;> exact ⟨by omega, by omega⟩
    obtain ⟨m, hm, hl⟩ := h2.len
    have hl2 : (gaddF g1 t p).bs.length = 48 * (m + 1) := by simp only [gaddF, List.length_append]; omega
    cases last
    · simp only [cond_false]
      split
      · exact ⟨⟨m + 1, by omega, hl2⟩, h2.byt.app hb, hb2.1, hb2.2, h2.l0, by have := h2.l1; simp only [gaddF]; omega⟩
      · refine ⟨⟨0, by omega, rfl⟩, Bytes.nil, hb2.1, hb2.2, ?_, ?_⟩
        · have := h2.l0; simp only [loseF, gaddF]; omega
        · have := h2.l1; simp only [loseF, gaddF]; omega
    · simp only [cond_true]
      refine ⟨⟨0, by omega, rfl⟩, Bytes.nil, hb2.1, hb2.2, ?_, ?_⟩
      · have := h2.l0; have := lostE_rng (unE (g1.bs ++ p)) g1.lost; simp only [outF, gaddF]; omega
      · have := h2.l1; have := lostE_rng (unE (g1.bs ++ p)) g1.lost; simp only [outF, gaddF]; omega
  · simp only [cond_true]
    exact (h2.skip (!last)).mono (by omega)
end Go.Proofs.Ytgiefcolkohgkaa
