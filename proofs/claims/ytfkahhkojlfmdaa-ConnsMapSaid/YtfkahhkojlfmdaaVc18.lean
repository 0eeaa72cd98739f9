/- Blocks apart by the types of their elements. -/
import Derived.Test.YtfkahhkojlfmdaaVc17
set_option linter.unusedVariables false
set_option linter.unusedSimpArgs false
namespace Go.Vc
open Go.RowKit
def TyB (w : World) (e : TypeId) (k : Nat) : Prop := ∃ c fr, w.heap[k]? = some (.cells c e fr)
/-- Only blocks of one type, from a base on, may have been turned. -/
def StepT (e : TypeId) (base : Nat) (w w' : World) : Prop := Step (fun k => base ≤ k ∧ TyB w e k) w w'
section
variable {F : Nat → Prop} {w w' w'' w0 : World} {B b base base' n n' c c' sz : Nat} {e e' : TypeId} {A : Option Addr} {xs ys : List Value} {P : Program} {cs : Array Value}
theorem TyB.ne {i : Nat} (h : TyB w e i) (ho : Own w b cs e') (hne : e ≠ e') : ¬ i = b := by
  rintro rfl
  obtain ⟨c, fr, h⟩ := h
  rw [ho] at h
  simp only [Option.some.injEq, Obj.cells.injEq] at h
  exact hne h.2.1.symm
theorem RwS.tyB (h : RwS w sz base e A n c xs) {i : Nat} (hi : ownB A i) : TyB w e i := by
  obtain ⟨a, rfl, rfl⟩ := hi
  rcases h.2 with ⟨hv, _⟩ | ⟨g, cap, cur, hv, _, hg, _⟩
  · cases hv
  · cases hv; exact ⟨_, _, hg⟩
theorem RwS.stepT (h : RwS w sz base e A n c xs) (hs : Step (ownB A) w w') : StepT e base w w' := hs.mono fun i hi => ⟨(h.lt i hi).1, h.tyB hi⟩
theorem StepT.refl (e : TypeId) (base : Nat) (w : World) : StepT e base w w := Step.refl _ _
theorem StepT.size (h : StepT e base w w') : w.heap.size ≤ w'.heap.size := Step.size h
theorem StepT.trans (h : StepT e base w w') (k : StepT e base w' w'') : StepT e base w w'' :=
  ⟨k.os.trans h.os, k.tape.trans h.tape, k.output.trans h.output, Nat.le_trans h.size k.size, fun i hi hF => by
    have h1 := Step.block h i hi hF
    refine (Step.block k i (Nat.lt_of_lt_of_le hi h.size) fun ⟨h2, c, fr, h3⟩ => hF ⟨h2, c, fr, ?_⟩).trans h1
    rw [← h1]; exact h3⟩
theorem StepT.no (h : StepT e base w w') (k : Step No w' w'') : StepT e base w w'' := Step.trans h k.weak
/-- A step at new blocks. -/
theorem StepT.new (h : StepT e base w w') (k : Step F w' w'') (hF : ∀ i, F i → w.heap.size ≤ i) : StepT e base w w'' :=
  Step.transNew h k fun i hi hG => absurd (hF i hG) (by omega)
theorem StepT.low (h : StepT e base w w') (hb : base' ≤ base) : StepT e base' w w' := Step.mono h fun i hi => ⟨by omega, hi.2⟩
theorem StepT.old (h : StepT e base w w') (hb : w.heap.size ≤ base) : Step No w w' := ⟨h.os, h.tape, h.output, h.size, fun i hi _ => Step.block h i hi fun hF => by omega⟩
theorem RwS.stepN (h : RwS w sz base e A n c xs) (hs : Step F w w') (hF : ∀ k, base ≤ k → k < w.heap.size → ¬ F k) : RwS w' sz base e A n c xs := h.keepO hs fun k hk => hF k (h.lt k hk).1 (h.lt k hk).2
theorem Rw.stepN (h : Rw w base e A n c xs) (hs : Step F w w') (hF : ∀ k, base ≤ k → k < w.heap.size → ¬ F k) : Rw w' base e A n c xs := RwS.stepN h hs hF
/-- All of a row lies below a bound. -/
def UbA (A : Option Addr) (H : Nat) : Prop := ∀ k, ownB A k → k < H
theorem RwS.ub (h : RwS w sz base e A n c xs) : UbA A w.heap.size := fun k hk => (h.lt k hk).2
theorem Rw.ub (h : Rw w base e A n c xs) : UbA A w.heap.size := RwS.ub h
theorem RwS.stepU {H : Nat} (h : RwS w sz base e A n c xs) (hu : UbA A H) (hs : Step F w w') (hF : ∀ k, base ≤ k → k < H → ¬ F k) : RwS w' sz base e A n c xs := h.keepO hs fun k hk => hF k (h.lt k hk).1 (hu k hk)
theorem Rw.stepU {H : Nat} (h : Rw w base e A n c xs) (hu : UbA A H) (hs : Step F w w') (hF : ∀ k, base ≤ k → k < H → ¬ F k) : Rw w' base e A n c xs := RwS.stepU h hu hs hF
theorem RwS.keepT (h : RwS w sz base e A n c xs) (ho : Own w b cs e') (hne : e ≠ e') (hs : Step (Just b) w w') : RwS w' sz base e A n c xs :=
  h.keepO hs fun k hk hF => (h.tyB hk).ne ho hne hF
theorem Rw.keepT (h : Rw w base e A n c xs) (ho : Own w b cs e') (hne : e ≠ e') (hs : Step (Just b) w w') : Rw w' base e A n c xs := RwS.keepT h ho hne hs
/-- A row of another type. -/
theorem RwS.keepTT (h : RwS w sz base e A n c xs) (hne : e ≠ e') (hs : StepT e' base' w w') : RwS w' sz base e A n c xs :=
  h.keepO hs fun k hk ⟨_, c1, fr1, h1⟩ => by
    obtain ⟨c2, fr2, h2⟩ := h.tyB hk
    rw [h1] at h2
    simp only [Option.some.injEq, Obj.cells.injEq] at h2
    exact hne h2.2.1.symm
theorem Rw.keepTT (h : Rw w base e A n c xs) (hne : e ≠ e') (hs : StepT e' base' w w') : Rw w' base e A n c xs := RwS.keepTT h hne hs
end
section
variable {r : Option Nat} {n : Nat} {ds : List Deferred} {P : Program} {ops : Array Oper} {Q : Exit → Act → World → Prop} {tbl : List (List Nat)} {m : Nat} {l : List (Nat × Value)} {R : World → World → Prop} {ch : List Nat} {w : World} {i : Nat}
theorem VL_appendT {d e m c m2 c2 bytes : Nat} {A A2 : Option Addr} (h : appOpS P n ops l i = some (d, e, A, m, c, A2, m2, c2)) (hi' : Nat.blt i ops.size = true) (hi : appInfo P e = some (1, bytes)) (base B : Nat) (xs news : List Value) (hown : Rw w base e A m c xs)
    (hl : news.length = m2) (hnews : Sl w B A2 news) (h1 : ∀ u ∈ news, oneC u = true) (N : Nat) (hN : m + m2 = N) (h63 : N ≤ maxLen) (hbytes : N * bytes ≤ 140737488355328) (hbase : base ≤ w.heap.size)
    (next : ∀ A' c' w', Rw w' base e A' N c' (xs ++ news) → StepT e base w w' → VL r n ds P ops Q (i + 1) ((d, .slice A' N c') :: l) w') : VL r n ds P ops Q i l w :=
  VL_appendZ h hi' hi base B xs news hown.toS (by omega) hnews h1 N hN h63 hbytes hbase fun A' c' w' hr hs => next A' c' w' hr.to1 (hown.toS.stepT hs)
theorem VTc_appendT {k d e mm c m2 c2 bytes : Nat} {A A2 : Option Addr} {is : List Nat} {kn : List (Nat × Value)} (h : appOpS P n ops (lkn ops tbl m l kn k) k = some (d, e, A, mm, c, A2, m2, c2)) (hd : dstOf ops k = some d) (hi : appInfo P e = some (1, bytes)) (base B : Nat) (xs news : List Value) (hown : Rw w base e A mm c xs)
    (hl : news.length = m2) (hnews : Sl w B A2 news) (h1 : ∀ u ∈ news, oneC u = true) (N : Nat) (hN : mm + m2 = N) (h63 : N ≤ maxLen) (hbytes : N * bytes ≤ 140737488355328) (hbase : base ≤ w.heap.size)
    (hR : ∀ w1, StepT e base w w1 → R w w1)
    (next : ∀ A' c' w', Rw w' base e A' N c' (xs ++ news) → StepT e base w w' → VT r n ds P ops Q tbl m l R ch is ((k, .slice A' N c') :: kn) w') : VTc r n ds P ops Q tbl m l R ch k is kn w :=
  VTc_appendZ h hd hi base B xs news hown.toS (by omega) hnews h1 N hN h63 hbytes hbase (fun w1 hs => hR w1 (hown.toS.stepT hs)) fun A' c' w' hr hs => next A' c' w' hr.to1 (hown.toS.stepT hs)
end
end Go.Vc
