/- Layer 21 and 14 in plain Lean: what a maintenance cell tells, what an alarm knows. -/
import Derived.Test.YteipakmfiiccpaaVc6
import Derived.Test.YteipakmfiiccpaaVc7
import Derived.Laws.Strings
set_option linter.unusedVariables false
set_option linter.unusedSimpArgs false
namespace Go.Proofs.Yteipakmfiiccpaa
open Go.Vc

def held (t : Int) : Int := imax 0 (imin t 1152921504606846976)
theorem held_bd (t : Int) : 0 ≤ held t ∧ held t ≤ 1152921504606846976 := by unfold held; rw [imax_eq, imin_eq]; omega
theorem held_eq (t : Int) (h : 0 ≤ t) (h' : t ≤ 1152921504606846976) : held t = t := by unfold held; rw [imax_eq, imin_eq]; omega
def pl (p : Nat → Int) : List Value := [.int .u8 (p 0), .int .u8 (p 1), .int .u8 (p 2), .int .u8 (p 3), .int .u8 (p 4), .int .u8 (p 5), .int .u8 (p 6), .int .u8 (p 7), .int .u8 (p 8), .int .u8 (p 9), .int .u8 (p 10), .int .u8 (p 11), .int .u8 (p 12), .int .u8 (p 13), .int .u8 (p 14), .int .u8 (p 15)]
def zp : Nat → Int := fun _ => 0
def ones : Nat → Int := fun _ => 255
def plEq (p q : Nat → Int) : Bool := cellsEq (pl p) (pl q)
def lp (p : Nat → Int) : List Int := (List.range 16).map p
theorem pl_lp (p : Nat → Int) : pl p = (lp p).map (Value.int .u8) := rfl
theorem plEq_iff (p q : Nat → Int) : plEq p q = true ↔ pl p = pl q := by
  unfold plEq
  exact cellsEq_iff (ks := rep 16 [.int .u8]) (by simp [CellsAre, rep, pl, Leaf.has]) (by simp [CellsAre, rep, pl, Leaf.has])
theorem plEq_lp (p q : Nat → Int) : plEq p q = true ↔ lp p = lp q := by
  rw [plEq_iff, pl_lp, pl_lp]
  constructor
  · intro h
    have := congrArg (List.map fun v : Value => match v with | .int _ n => n | _ => 0) h
    simpa [List.map_map, Function.comp_def] using this
  · intro h; rw [h]
theorem plEq_refl (p : Nat → Int) : plEq p p = true := (plEq_iff p p).2 rfl
theorem pl_congr {p q : Nat → Int} (h : plEq p q = true) : pl p = pl q := (plEq_iff p q).1 h
def inByte (p : Nat → Int) : Prop := ∀ i, 0 ≤ p i ∧ p i < 256
theorem inByte_zp : inByte zp := fun _ => by unfold zp; omega
theorem inByte_ones : inByte ones := fun _ => by unfold ones; omega
theorem lp_byte {p : Nat → Int} (h : inByte p) : ∀ x ∈ lp p, 0 ≤ x ∧ x < 256 := by
  intro x hx
  obtain ⟨i, _, rfl⟩ := List.mem_map.1 hx
  exact h i

/-- What a maintenance cell tells. -/
structure Om where
  k : Int
  d : Int
  a : Bool
  tg : Int
  p : Nat → Int
  s : Nat → Int
def omL (o : Om) : List Value := [.int .i64 o.k, .int .u8 o.d, .bool o.a, .int .u32 o.tg,
  .int .u8 (o.p 0), .int .u8 (o.p 1), .int .u8 (o.p 2), .int .u8 (o.p 3), .int .u8 (o.p 4), .int .u8 (o.p 5), .int .u8 (o.p 6), .int .u8 (o.p 7), .int .u8 (o.p 8), .int .u8 (o.p 9), .int .u8 (o.p 10), .int .u8 (o.p 11), .int .u8 (o.p 12), .int .u8 (o.p 13), .int .u8 (o.p 14), .int .u8 (o.p 15),
  .int .u8 (o.s 0), .int .u8 (o.s 1), .int .u8 (o.s 2), .int .u8 (o.s 3), .int .u8 (o.s 4), .int .u8 (o.s 5), .int .u8 (o.s 6), .int .u8 (o.s 7), .int .u8 (o.s 8), .int .u8 (o.s 9), .int .u8 (o.s 10), .int .u8 (o.s 11), .int .u8 (o.s 12), .int .u8 (o.s 13), .int .u8 (o.s 14), .int .u8 (o.s 15)]
def zeroO : Om := ⟨0, 0, false, 0, zp, zp⟩
def omEq (x y : Om) : Bool := cellsEq (omL x) (omL y)
def onlyO (o : Om) : Om := if o.k = 0 ∨ o.k = 1 then ⟨o.k, o.d, false, 0, o.p, zp⟩ else if o.k = 8 then ⟨o.k, 0, o.a, o.tg, o.p, o.s⟩ else ⟨o.k, 0, false, 0, zp, zp⟩
def kindO (o : Om) : Bool := decide (o.k = 0 ∨ o.k = 1 ∨ o.k = 8 ∨ o.k = 4)
def rightO (o : Om) : Bool := kindO o && omEq (onlyO o) o
def replyB (o : Om) (here : Nat → Int) : Bool := (o.k == 8) && (o.a && (plEq o.p here || plEq o.p ones))
def replyV (o : Om) (here : Nat → Int) : Om := if replyB o here = true then ⟨o.k, o.d, false, o.tg, here, o.s⟩ else zeroO

/-- What an alarm knows. -/
structure Al where
  ah : Int
  bh : Int
  here : Nat → Int
  wt : Int
  dn : Bool
def alC (s : Al) : Array Value := #[.int .i64 s.ah, .int .i64 s.bh, .int .u8 (s.here 0), .int .u8 (s.here 1), .int .u8 (s.here 2), .int .u8 (s.here 3), .int .u8 (s.here 4), .int .u8 (s.here 5), .int .u8 (s.here 6), .int .u8 (s.here 7), .int .u8 (s.here 8), .int .u8 (s.here 9), .int .u8 (s.here 10), .int .u8 (s.here 11), .int .u8 (s.here 12), .int .u8 (s.here 13), .int .u8 (s.here 14), .int .u8 (s.here 15), .int .i64 s.wt, .bool s.dn]
def newA (here : Nat → Int) (wait : Int) : Al := ⟨0, 0, here, imax 1 (held wait), false⟩
def userA (s : Al) : Al := { s with ah := 0 }
def downA (s : Al) (b : Bool) : Al := { s with dn := b }
def gotA (s : Al) (t : Int) (o : Om) : Al := if rightO o = true then (if o.k = 0 then { s with ah := held t + s.wt } else if o.k = 1 then { s with bh := held t + s.wt } else if o.k = 4 then { s with ah := 0 } else s) else s
def gotV (s : Al) (o : Om) : Om := if rightO o = true then replyV o s.here else zeroO
def gotB (s : Al) (o : Om) : Bool := rightO o && replyB o s.here
def aheadA (s : Al) (t : Int) : Bool := decide (held t < s.ah)
def behindA (s : Al) (t : Int) : Bool := decide (held t < s.bh)
def waits (s : Al) : Prop := 1 ≤ s.wt ∧ s.wt ≤ 1152921504606846976
theorem newA_waits (h : Nat → Int) (x : Int) : waits (newA h x) := by have := held_bd x; unfold waits newA; simp only [imax_eq]; omega
theorem gotA_wt (s : Al) (t : Int) (o : Om) : (gotA s t o).wt = s.wt := by unfold gotA; split <;> (try split) <;> (try split) <;> (try split) <;> rfl
theorem gotA_here (s : Al) (t : Int) (o : Om) : (gotA s t o).here = s.here := by unfold gotA; split <;> (try split) <;> (try split) <;> (try split) <;> rfl
theorem gotA_dn (s : Al) (t : Int) (o : Om) : (gotA s t o).dn = s.dn := by unfold gotA; split <;> (try split) <;> (try split) <;> (try split) <;> rfl

/-- What happens. -/
structure OpA where
  do_ : Int
  t : Int
  o : Om
def stepA (s : Al) (x : OpA) : Al := if x.do_ = 1 then gotA s x.t x.o else if x.do_ = 2 then userA s else if x.do_ = 3 ∨ x.do_ = 4 then downA s (x.do_ == 3) else s
def walkA (here : Nat → Int) (wait : Int) (q : Nat → OpA) : Nat → Al
  | 0 => newA here wait
  | k + 1 => stepA (walkA here wait q k) (q k)
theorem stepA_wt (s : Al) (x : OpA) : (stepA s x).wt = s.wt := by unfold stepA; split <;> (try split) <;> (try split) <;> first | exact gotA_wt _ _ _ | rfl
theorem stepA_here (s : Al) (x : OpA) : (stepA s x).here = s.here := by unfold stepA; split <;> (try split) <;> (try split) <;> first | exact gotA_here _ _ _ | rfl
theorem walkA_wt (h : Nat → Int) (x : Int) (q : Nat → OpA) (n : Nat) : (walkA h x q n).wt = imax 1 (held x) := by
  induction n with
  | zero => rfl
  | succ n ih => rw [walkA, stepA_wt, ih]
theorem walkA_here (h : Nat → Int) (x : Int) (q : Nat → OpA) (n : Nat) : (walkA h x q n).here = h := by
  induction n with
  | zero => rfl
  | succ n ih => rw [walkA, stepA_here, ih]
theorem walkA_waits (h : Nat → Int) (x : Int) (q : Nat → OpA) (n : Nat) : waits (walkA h x q n) := by
  have := newA_waits h x
  unfold waits at *
  rw [walkA_wt]
  exact this

theorem rightO_01 {o : Om} (h : o.k = 0 ∨ o.k = 1) : rightO o = cellsEq (omL ⟨o.k, o.d, false, 0, o.p, zp⟩) (omL o) := by
  unfold rightO kindO onlyO omEq
  rw [if_pos h, decide_eq_true (by omega), Bool.true_and]
theorem rightO_8 {o : Om} (h : o.k = 8) : rightO o = cellsEq (omL ⟨o.k, 0, o.a, o.tg, o.p, o.s⟩) (omL o) := by
  unfold rightO kindO onlyO omEq
  rw [if_neg (by omega), if_pos h, decide_eq_true (by omega), Bool.true_and]
theorem rightO_4 {o : Om} (h : o.k = 4) : rightO o = cellsEq (omL ⟨o.k, 0, false, 0, zp, zp⟩) (omL o) := by
  unfold rightO kindO onlyO omEq
  rw [if_neg (by omega), if_neg (by omega), decide_eq_true (by omega), Bool.true_and]
theorem rightO_no {o : Om} (h0 : o.k ≠ 0) (h1 : o.k ≠ 1) (h2 : o.k ≠ 8) (h3 : o.k ≠ 4) : rightO o = false := by
  unfold rightO kindO
  rw [decide_eq_false (by omega), Bool.false_and]
theorem own_one {w : World} {b : Nat} {v : Value} {T : TypeId} (h : Own w b #[v] T) : ∀ j, j < 1 * 1 → w.cell? ⟨b, 0 + j, none⟩ = [v][j]? := by
  intro j hj
  obtain rfl : j = 0 := by omega
  exact h.cell 0
/-! ### Ends of walks -/
theorem reply_fin {o : Om} {here : Nat → Int} {b : Bool} {v : Om} (hb : replyB o here = b) (hv : (if b = true then (⟨o.k, o.d, false, o.tg, here, o.s⟩ : Om) else zeroO) = v) : (Value.tuple #[.agg (omL v).toArray, .bool b]) = .tuple #[.agg (omL (replyV o here)).toArray, .bool (replyB o here)] := by
  subst hb; subst hv; rfl
theorem str_eq {p q : Nat → Int} (hp : inByte p) (hq : inByte q) : ((strOf (lp p)).toList == (strOf (lp q)).toList) = plEq p q := by
  rw [Bool.eq_iff_iff, plEq_lp, beq_iff_eq]
  constructor
  · intro h
    refine strOf_inj (lp_byte hp) (lp_byte hq) ?_
    have : (strOf (lp p)).data = (strOf (lp q)).data := by
      have h2 := h
      rw [ByteArray.toList_eq, ByteArray.toList_eq] at h2
      exact Array.toList_inj.1 h2
    exact congrArg ByteArray.mk this
  · intro h; rw [h]

/-! ### A row of bytes 255 -/
def Fil (w : World) (b T N m : Nat) : Prop := ∃ c : Array Value, Own w b c T ∧ c.size = N ∧ ∀ j, j < m → c[j]? = some (.int .u8 255)
theorem Fil.less {w : World} {b T N m k : Nat} (h : Fil w b T N m) (hk : k ≤ m) : Fil w b T N k := by
  obtain ⟨c, h1, h2, h3⟩ := h
  exact ⟨c, h1, h2, fun j hj => h3 j (by omega)⟩
theorem Fil.copy {w w1 : World} {b T N m k : Nat} {c : Array Value} (hsz : c.size = N) (hc : ∀ j, j < m → c[j]? = some (.int .u8 255)) (hle : m + k ≤ N) (hwr : Wr w w1 b (setRow c m (List.replicate k (.int .u8 255))) T) : Fil w1 b T N (m + k) := by
  refine ⟨_, hwr.own, by rw [Go.Vc.size_setRow]; exact hsz, fun j hj => ?_⟩
  rw [Go.Vc.getElem?_setRow _ _ _ (by simp; omega)]
  by_cases h : m ≤ j
  · rw [if_pos ⟨h, by simp; omega⟩, List.getElem?_replicate, if_pos (by omega)]
  · rw [if_neg (by omega), hc j (by omega)]
theorem Fil.one {w w1 : World} {b T N : Nat} {c : Array Value} (hsz : c.size = N) (hle : 1 ≤ N) (hwr : Wr w w1 b (setRow c 0 [.int .u8 255]) T) : Fil w1 b T N 1 := by
  have := Fil.copy (m := 0) (k := 1) hsz (fun j hj => absurd hj (by omega)) (by omega) hwr
  simpa using this
theorem Fil.step {w w1 : World} {b T N m : Nat} (h : Fil w b T N m) (hs : Step No w w1) : Fil w1 b T N m := by
  obtain ⟨c, h1, h2⟩ := h
  exact ⟨c, h1.no hs, h2⟩
theorem Fil.lt {w : World} {b T N m : Nat} (h : Fil w b T N m) : b < w.heap.size := by
  obtain ⟨c, h1, _⟩ := h
  exact h1.lt
theorem Fil.cell {w : World} {b T N m : Nat} (h : Fil w b T N m) {j : Nat} (hj : j < m) : w.cell? ⟨b, j, none⟩ = some (.int .u8 255) := by
  obtain ⟨c, h1, _, h3⟩ := h
  exact (h1.cell j).trans (h3 j hj)
/-- Copying more of it. -/
def RFil (b T N m k : Nat) (x y : World) : Prop := (Fil x b T N m → Fil y b T N m) ∧ (Fil x b T N (m + k) → Fil y b T N (m + k)) ∧ Step (Just b) x y
theorem RFil.refl (b T N m k : Nat) (x : World) : RFil b T N m k x x := ⟨id, id, Step.refl _ _⟩
theorem RFil.trans {b T N m k : Nat} {x y z : World} (h : RFil b T N m k x y) (h' : RFil b T N m k y z) : RFil b T N m k x z := ⟨h'.1 ∘ h.1, h'.2.1 ∘ h.2.1, h.2.2.trans h'.2.2⟩
end Go.Proofs.Yteipakmfiiccpaa
