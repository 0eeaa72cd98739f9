/- The calculus' twelfth part: slices as lists: what lies there is told by a list; views, rows of one's own, arrays. -/
import Derived.Test.YtfkahhkojlfmdaaVc10
import Derived.Test.YtfkahhkojlfmdaaVc11
import Derived.Test.YtfkahhkojlfmdaaVc9
set_option linter.unusedVariables false
set_option linter.unusedSimpArgs false
namespace Go.Vc
open Go.RowKit

def iL (k : IntKind) (bs : List Int) : List Value := bs.map (Value.int k)
def iA (k : IntKind) (bs : List Int) : Array Value := (iL k bs).toArray
section
variable {k : IntKind} {bs bs' : List Int}
@[simp] theorem iL_length : (iL k bs).length = bs.length := by simp [iL]
@[simp] theorem iA_size : (iA k bs).size = bs.length := by simp [iA]
theorem iL_get (j : Nat) (h : j < bs.length) : (iL k bs)[j]? = some (.int k (bs.getD j 0)) := by
  simp [iL, List.getD, List.getElem?_eq_getElem h]
theorem iA_get (j : Nat) (h : j < bs.length) : (iA k bs)[j]? = some (.int k (bs.getD j 0)) := by
  rw [← iL_get j h]; simp [iA]
theorem iL_append : iL k (bs ++ bs') = iL k bs ++ iL k bs' := by simp [iL]
theorem iL_set (j : Nat) (v : Int) : iL k (bs.set j v) = (iL k bs).set j (.int k v) := by simp [iL, List.map_set]
theorem iL_take (j : Nat) : iL k (bs.take j) = (iL k bs).take j := by simp [iL]
theorem iL_drop (j : Nat) : iL k (bs.drop j) = (iL k bs).drop j := by simp [iL]
theorem iL_one : ∀ u ∈ iL k bs, oneC u = true := by
  intro u hu
  obtain ⟨x, _, rfl⟩ := List.mem_map.1 hu
  rfl
theorem iA_set (j : Nat) (v : Int) (h : j < bs.length) : setRow (iA k bs) j [.int k v] = iA k (bs.set j v) := by
  apply Array.ext_getElem?
  intro q
  rw [getElem?_setRow _ _ _ (by simp; omega)]
  simp only [List.length_singleton, iA, iL_set, List.getElem?_toArray]
  rw [List.getElem?_set]
  by_cases hq : q = j
  · subst hq; simp [h]
  · rw [if_neg (by omega), if_neg (fun e => hq e.symm)]
theorem iL_inj : iL k bs = iL k bs' ↔ bs = bs' := by
  constructor
  · intro h
    induction bs generalizing bs' with
    | nil => cases bs' <;> simp_all [iL]
    | cons x r ih => cases bs' with
      | nil => simp [iL] at h
      | cons y q => simp only [iL, List.map_cons, List.cons.injEq, Value.int.injEq, true_and] at h; rw [h.1, ih h.2]
  · rintro rfl; rfl
end

/-! ### 1. A view: what lies at a slice's address, all of it below B -/
def Sl (w : World) (B : Nat) (A : Option Addr) (xs : List Value) : Prop :=
  0 < xs.length → ∃ b o, A = some ⟨b, o, none⟩ ∧ b < B ∧ ∀ j u, xs[j]? = some u → w.cell? ⟨b, o + j, none⟩ = some u
section
variable {F : Nat → Prop} {w w' : World} {B B' : Nat} {A : Option Addr} {xs ys : List Value} {P : Program}
theorem Sl.nil : Sl w B A [] := fun h => by simp at h
theorem Sl.step (h : Sl w B A xs) (hs : Step F w w') (hF : ∀ k, k < B → ¬ F k) : Sl w' B A xs := by
  intro h0
  obtain ⟨b, o, hA, hb, hc⟩ := h h0
  exact ⟨b, o, hA, hb, fun j u hu => hs.cell (hF b hb) (hc j u hu)⟩
theorem Sl.no (h : Sl w B A xs) (hs : Step No w w') : Sl w' B A xs := h.step hs fun _ _ => id
theorem Sl.mono (h : Sl w B A xs) (hB : B ≤ B') : Sl w B' A xs := by
  intro h0
  obtain ⟨b, o, hA, hb, hc⟩ := h h0
  exact ⟨b, o, hA, by omega, hc⟩
theorem Sl.cast (h : Sl w B A xs) (e : xs = ys) : Sl w B A ys := e ▸ h
theorem Sl.open (h : Sl w B A xs) (h0 : 0 < xs.length) : ∃ b o, A = some ⟨b, o, none⟩ ∧ b < B := by
  obtain ⟨b, o, hA, hb, _⟩ := h h0
  exact ⟨b, o, hA, hb⟩
theorem Sl.get {b o : Nat} (h : Sl w B (some ⟨b, o, none⟩) xs) (j : Nat) (u : Value) (hu : xs[j]? = some u) : w.cell? ⟨b, o + j, none⟩ = some u := by
  obtain ⟨hlt, _⟩ := List.getElem?_eq_some_iff.1 hu
  obtain ⟨b', o', hA, _, hc⟩ := h (by omega)
  cases hA
  exact hc j u hu
theorem Sl.ld {b o : Nat} {t : TypeId} {u : Value} (h : Sl w B (some ⟨b, o, none⟩) xs) (ht : oneB P t = true) (j : Nat) (hu : xs[j]? = some u) : Loads P t w ⟨b, o + j, none⟩ u := Loads.one ht (h.get j u hu)
theorem Sl.ld0 {b : Nat} {t : TypeId} {u : Value} (h : Sl w B (some ⟨b, 0, none⟩) xs) (ht : oneB P t = true) (j : Nat) (hu : xs[j]? = some u) : Loads P t w ⟨b, j, none⟩ u := by
  have := h.ld ht j hu
  rwa [Nat.zero_add] at this
theorem Sl.sub {b o : Nat} (h : Sl w B (some ⟨b, o, none⟩) xs) (L M : Nat) : Sl w B (some ⟨b, o + L, none⟩) ((xs.drop L).take M) := by
  intro h0
  obtain ⟨b', o', hA, hb, hc⟩ := h (by simp at h0; omega)
  cases hA
  refine ⟨b, o + L, rfl, hb, fun j u hu => ?_⟩
  rw [List.getElem?_take] at hu
  split at hu
  · rw [List.getElem?_drop] at hu
    have := hc (L + j) u hu
    rwa [← Nat.add_assoc] at this
  · cases hu
theorem Own.sl {b : Nat} {c : Array Value} {e : TypeId} (h : Own w b c e) (hB : b < B) : Sl w B (some ⟨b, 0, none⟩) c.toList := by
  intro _
  refine ⟨b, 0, rfl, hB, fun j u hu => ?_⟩
  rw [Nat.zero_add, h.cell]
  simpa using hu
end

theorem Sl.keepB {F : Nat → Prop} {w w' : World} {B b o : Nat} {xs : List Value} (h : Sl w B (some ⟨b, o, none⟩) xs) (hs : Step F w w') (hF : ¬ F b) : Sl w' B (some ⟨b, o, none⟩) xs := by
  intro h0
  obtain ⟨b', o', hA, hb, hc⟩ := h h0
  cases hA
  exact ⟨b, o, rfl, hb, fun j u hu => hs.cell hF (hc j u hu)⟩
theorem Sl.cut {w : World} {B b o o' L H M : Nat} {xs : List Value} (h : Sl w B (some ⟨b, o, none⟩) xs) (ho : (if M = L then o else o + L * 1) = o') (hM : H ≤ M) : Sl w B (some ⟨b, o', none⟩) ((xs.drop L).take (H - L)) := by
  by_cases e : M = L
  · rw [show H - L = 0 by omega, List.take_zero]; exact Sl.nil
  · rw [if_neg e, Nat.mul_one] at ho
    rw [← ho]
    exact h.sub L (H - L)
theorem Sl.take {w : World} {B : Nat} {A : Option Addr} {xs : List Value} (h : Sl w B A xs) (m : Nat) : Sl w B A (xs.take m) := by
  intro h0
  obtain ⟨b, o, hA, hb, hc⟩ := h (by simp at h0; omega)
  exact ⟨b, o, hA, hb, fun j u hu => hc j u (by rw [List.getElem?_take] at hu; split at hu <;> simp_all)⟩
theorem Sl.takeI {w : World} {B : Nat} {A : Option Addr} {k : IntKind} {bs : List Int} (h : Sl w B A (iL k bs)) (m : Nat) : Sl w B A (iL k (bs.take m)) := by rw [iL_take]; exact h.take m
theorem Sl.cutI {w : World} {B b o o' L H M : Nat} {k : IntKind} {bs : List Int} (h : Sl w B (some ⟨b, o, none⟩) (iL k bs)) (ho : (if M = L then o else o + L * 1) = o') (hM : H ≤ M) : Sl w B (some ⟨b, o', none⟩) (iL k ((bs.drop L).take (H - L))) := by
  rw [iL_take, iL_drop]; exact h.cut ho hM
theorem tdiv_nat (a c : Nat) : ((a : Int).tdiv (c : Int)) = ((a / c : Nat) : Int) := (Int.ofNat_tdiv a c).symm
theorem tmod_nat (a c : Nat) : ((a : Int).tmod (c : Int)) = ((a % c : Nat) : Int) := (Int.ofNat_tmod a c).symm

/-! ### 2. A row of one's own, of elements of one cell -/
def Rw (w : World) (base : Nat) (e : TypeId) (A : Option Addr) (n c : Nat) (xs : List Value) : Prop := w.ownsRow base e 1 (.slice A n c) n xs
section
variable {F : Nat → Prop} {w w' w0 : World} {B base base' n n' c c' : Nat} {e : TypeId} {A : Option Addr} {xs ys : List Value} {P : Program}
theorem Rw.len (h : Rw w base e A n c xs) : xs.length = n := by have := h.1; omega
theorem Rw.nil (w : World) (base : Nat) (e : TypeId) : Rw w base e none 0 0 [] := World.ownsRow_nil w base e 1
theorem Rw.cast (h : Rw w base e A n c xs) (hn : n = n') (hx : xs = ys) : Rw w base e A n' c ys := by subst hn; subst hx; exact h
theorem Rw.keep (h : Rw w base e A n c xs) (hs : Step F w w') (hF : ∀ k, base ≤ k → ¬ F k) : Rw w' base e A n c xs := by
  refine ⟨h.1, ?_⟩
  rcases h.2 with hn | ⟨g, cap, cur, hv, hb, hg, rest⟩
  · exact .inl hn
  · exact .inr ⟨g, cap, cur, hv, hb, (hs.block g (Array.getElem?_eq_some_iff.1 hg).1 (hF g hb)).trans hg, rest⟩
theorem Rw.step (h : Rw w base e A n c xs) (hs : Step F w w') (hF : ∀ k, base ≤ k → ¬ F k) : Rw w' base e A n c xs := h.keep hs hF
theorem Rw.no (h : Rw w base e A n c xs) (hs : Step No w w') : Rw w' base e A n c xs := h.keep hs fun _ _ => id
theorem Rw.low (h : Rw w base e A n c xs) (hb : base' ≤ base) : Rw w base' e A n c xs := by
  refine ⟨h.1, ?_⟩
  rcases h.2 with hn | ⟨g, cap, cur, hv, hb', rest⟩
  · exact .inl hn
  · exact .inr ⟨g, cap, cur, hv, by omega, rest⟩
theorem Rw.cap (h : Rw w base e A n c xs) : n ≤ c := by
  rcases h.2 with ⟨hv, hn⟩ | ⟨g, cap, cur, hv, hb', _, hc, _⟩
  · cases hv; omega
  · cases hv; exact hc
theorem Rw.sl (h : Rw w base e A n c xs) : Sl w w.heap.size A xs := by
  intro h0
  rcases h.2 with ⟨hv, hn⟩ | ⟨g, cap, cur, hv, hb', hg, _, _, _, ht⟩
  · have := h.1; omega
  · cases hv
    refine ⟨g, 0, rfl, (Array.getElem?_eq_some_iff.1 hg).1, fun j u hu => ?_⟩
    rw [Nat.zero_add, (show Own w g cur e from hg).cell, ← ht] at *
    rw [List.getElem?_take] at hu
    split at hu
    · simpa using hu
    · cases hu
/-- A row that isn't empty has a block. -/
theorem Rw.open (h : Rw w base e A n c xs) (h0 : 0 < n) : ∃ g cur, A = some ⟨g, 0, none⟩ ∧ base ≤ g ∧ g < w.heap.size ∧ Own w g cur e ∧ cur.size = c ∧ n ≤ c ∧ c ≤ maxLen ∧ cur.toList.take n = xs := by
  rcases h.2 with ⟨hv, hn⟩ | ⟨g, cap, cur, hv, hb', hg, hc, hm, hs, ht⟩
  · omega
  · cases hv
    exact ⟨g, cur, rfl, hb', (Array.getElem?_eq_some_iff.1 hg).1, hg, by simpa using hs, hc, hm, by simpa using ht⟩
theorem Rw.of_own {g : Nat} {cur : Array Value} (ho : Own w g cur e) (hb : base ≤ g) (hs : cur.size = c) (hn : n ≤ c) (hm : c ≤ maxLen) (ht : cur.toList.take n = xs) : Rw w base e (some ⟨g, 0, none⟩) n c xs := by
  refine ⟨?_, .inr ⟨g, c, cur, rfl, hb, ho, hn, hm, by simpa using hs, by simpa using ht⟩⟩
  rw [← ht]; simp; omega
theorem Rw.of_new {g : Nat} {cur : Array Value} (ho : Own w g cur e) (hb : base ≤ g) (hm : cur.size ≤ maxLen) : Rw w base e (some ⟨g, 0, none⟩) cur.size cur.size cur.toList :=
  Rw.of_own ho hb rfl (Nat.le_refl _) hm (List.take_of_length_le (by simp))
theorem Rw.ld {g j : Nat} {t : TypeId} {u : Value} (h : Rw w base e (some ⟨g, 0, none⟩) n c xs) (ht : oneB P t = true) (hu : xs[j]? = some u) : Loads P t w ⟨g, j, none⟩ u := h.sl.ld0 ht j hu
theorem take_setRow {cur : Array Value} {j n : Nat} {v : Value} (hj : j < n) (hn : n ≤ cur.size) : (setRow cur j [v]).toList.take n = (cur.toList.take n).set j v := by
  apply List.ext_getElem?
  intro q
  rw [List.getElem?_take, List.getElem?_set, List.getElem?_take]
  have hg := getElem?_setRow [v] cur j (by simp; omega) q
  rw [← Array.getElem?_toList] at hg
  by_cases hq : j = q
  · subst hq
    rw [if_pos hj, hg]
    simp
    omega
  · have hc : ¬ (j ≤ q ∧ q < j + [v].length) := by
      show ¬ (j ≤ q ∧ q < j + 1)
      omega
    rw [if_neg hc] at hg
    rw [if_neg hq, hg]
    simp
/-- A store into a row. -/
theorem Rw.put {g j : Nat} {cur : Array Value} {v : Value} (hx : cur.toList.take n = xs) (hw : Wr w w' g (setRow cur j [v]) e) (hb : base ≤ g) (hs : cur.size = c) (hn : n ≤ c) (hm : c ≤ maxLen) (hj : j < n) : Rw w' base e (some ⟨g, 0, none⟩) n c (xs.set j v) :=
  Rw.of_own hw.own hb (by rw [size_setRow]; exact hs) hn hm (by rw [take_setRow hj (by omega), hx])
/-- What an append leaves. -/
theorem Rw.of_row {v : Value} (h : w.ownsRow base e 1 v n xs) : ∃ A c, v = .slice A n c ∧ Rw w base e A n c xs := by
  rcases h.2 with ⟨hv, hn⟩ | ⟨g, cap, cur, hv, hb', _⟩
  · subst hv; subst hn; exact ⟨none, 0, rfl, h⟩
  · subst hv; exact ⟨_, _, rfl, h⟩
theorem Rw.grown (h : Rw w base e A n c xs) (hg : w.grownBy w' (Value.slice A n c).ownBlock) : Step (fun k => base ≤ k) w w' :=
  Step.of_grown hg fun k hk _ => (h.lt k hk).1
end

/-! ### 3. append of a slice that may be nil -/
section
variable {r : Option Nat} {n : Nat} {ds : List Deferred} {P : Program} {ops : Array Oper} {Q : Exit → Act → World → Prop} {l : List (Nat × Value)} {w : World} {i : Nat} {K : List (Nat × Value) → World → Prop}
def appOpS (P : Program) (n : Nat) (ops : Array Oper) (l : List (Nat × Value)) (i : Nat) : Option (Nat × TypeId × Option Addr × Nat × Nat × Option Addr × Nat × Nat) :=
  match theOp ops l i with
  | some { dst := some d, op := .call { callee := .builtin .append, args := ags, argTypes := ts }, .. } =>
    match (ts[0]? : Option TypeId), (ts[1]? : Option TypeId), ((ags.map (evL l))[0]? : Option Value), ((ags.map (evL l))[1]? : Option Value) with
    | some t, some t', some (Value.slice A m c), some (Value.slice A2 m2 c2) => match P.underlying t with
      | some (TypeDesc.slice e) => bif Nat.blt d n && Nat.beq t t' && Nat.beq ts.size 2 && Nat.beq ags.size 2 then some (d, e, A, m, c, A2, m2, c2) else none
      | _ => none
    | _, _, _, _ => none
  | _ => none
theorem run_append_empty {t ty e : TypeId} {inf : TypeInfo} (ht : P.underlying t = some (.slice e)) (hi : P.info? e = some inf) (A A2 : Option Addr) (m c c2 : Nat) (hm : m ≤ c) :
    (Builtin.append_ #[t, t] ty #[.slice A m c, .slice A2 0 c2]).run P w = .ok (.slice A m c) w := by
  have hf : (Builtin.firstCells inf.size 0 (.slice A2 0 c2)).run P w = .ok #[] w := by
    cases A2 <;> simp [Builtin.firstCells, loadCells, loadCellsFrom]
  cases A <;> simp [Builtin.append_, run_underlying ht, sizeOf, typeInfo, hi, Builtin.lenOf, hm, hf, storeCells]

theorem V1_appendS {d e m c m2 c2 bytes : Nat} {A A2 : Option Addr} (h : appOpS P n ops l i = some (d, e, A, m, c, A2, m2, c2)) (hi : appInfo P e = some (1, bytes)) (base B : Nat) (xs news : List Value) (hown : Rw w base e A m c xs)
    (hl : news.length = m2) (hnews : Sl w B A2 news) (h1 : ∀ u ∈ news, oneC u = true) (h63 : m + m2 ≤ maxLen) (hbytes : (m + m2) * bytes ≤ 140737488355328) (hbase : base ≤ w.heap.size)
    (next : ∀ A' c' w', Rw w' base e A' (m + m2) c' (xs ++ news) → Step (fun k => base ≤ k) w w' → K ((d, .slice A' (m + m2) c') :: l) w') : V1 r n ds P ops Q i l w K := by
  unfold appInfo at hi
  split at hi
  · rename_i inf hinf
    split at hi
    · rename_i z hz
      cases hb : Nat.beq z.cells.size inf.size && Nat.blt 0 inf.size with
      | false => rw [hb] at hi; cases hi
      | true =>
        rw [hb] at hi
        simp only [cond_true, Option.some.injEq, Prod.mk.injEq] at hi
        obtain ⟨hsz, hby⟩ := hi
        simp only [Bool.and_eq_true] at hb
        have hzs := Nat.eq_of_beq_eq_true hb.1
        unfold appOpS at h
        split at h
        · rename_i _ d' ags ts ty pos aft gd ho
          split at h
          · rename_i t t' A0 m0 c0 A20 m20 c20 h0 h1' hv hx
            split at h
            · rename_i e' hu
              cases hq : Nat.blt d' n && Nat.beq t t' && Nat.beq ts.size 2 && Nat.beq ags.size 2 with
              | false => rw [hq] at h; cases h
              | true =>
                rw [hq] at h
                simp only [cond_true, Option.some.injEq, Prod.mk.injEq] at h
                obtain ⟨rfl, rfl, rfl, rfl, rfl, rfl, rfl, rfl⟩ := h
                simp only [Bool.and_eq_true] at hq
                obtain ⟨⟨⟨q1, q2⟩, q3⟩, q4⟩ := hq
                have q2 := Nat.eq_of_beq_eq_true q2
                subst q2
                have hts := arr2 (Nat.eq_of_beq_eq_true q3) h0 h1'
                have has := arr2 (by simpa using Nat.eq_of_beq_eq_true q4) hv hx
                rcases Nat.eq_zero_or_pos m20 with hz0 | hpos
                · subst hz0
                  obtain rfl : news = [] := List.eq_nil_of_length_eq_zero hl
                  refine V1_value ho rfl q1 ?_ (next A0 c0 w ((by simpa using hown : Rw w base e' A0 (m0 + 0) c0 (xs ++ []))) (Step.refl _ _))
                  simp only [execOp, resolve, invoke, builtin, Sem.run_bind, Sem.run_pure, Result.andThen_ok, has, hts, run_append_empty hu hinf A0 A20 m0 c0 c20 hown.cap]
                  rfl
                · obtain ⟨b', o', rfl, _⟩ := hnews.open (by omega)
                  obtain ⟨v2, w2, hr, hr1, hr2, _⟩ := run_append_own (P := P) w base t ty e' inf z 1 bytes hu hinf hz hsz hby (by rw [hzs, hsz]) (by omega) _ m0 xs hown ⟨b', o', none⟩ m20 c20 news (by omega) (fun j u hj => by rw [add_none]; exact hnews.get j u hj) (fun u hu => oneC_oneCell (h1 u hu)) h63 hbytes hbase
                  obtain ⟨A', c', rfl, hR⟩ := Rw.of_row hr1
                  refine V1_value ho rfl q1 ?_ (next A' c' w2 hR (hown.grown hr2))
                  simp only [execOp, resolve, invoke, builtin, Sem.run_bind, Sem.run_pure, Result.andThen_ok, has, hts, hr]
            · cases h
          · cases h
        · cases h
    · cases hi
  · cases hi
theorem VL_appendS {d e m c m2 c2 bytes : Nat} {A A2 : Option Addr} (h : appOpS P n ops l i = some (d, e, A, m, c, A2, m2, c2)) (hi' : Nat.blt i ops.size = true) (hi : appInfo P e = some (1, bytes)) (base B : Nat) (xs news : List Value) (hown : Rw w base e A m c xs)
    (hl : news.length = m2) (hnews : Sl w B A2 news) (h1 : ∀ u ∈ news, oneC u = true) (N : Nat) (hN : m + m2 = N) (h63 : N ≤ maxLen) (hbytes : N * bytes ≤ 140737488355328) (hbase : base ≤ w.heap.size)
    (next : ∀ A' c' w', Rw w' base e A' N c' (xs ++ news) → Step (fun k => base ≤ k) w w' → VL r n ds P ops Q (i + 1) ((d, .slice A' N c') :: l) w') : VL r n ds P ops Q i l w := by
  subst hN
  exact VL_of_V1 hi' (V1_appendS h hi base B xs news hown hl hnews h1 h63 hbytes hbase next)
end

/-! ### 4. Rows whose block is known; arrays -/
section
variable {F : Nat → Prop} {w w' w0 : World} {B base base' n n' c c' : Nat} {e : TypeId} {A : Option Addr} {xs ys : List Value} {P : Program} {k : IntKind} {bs bs' : List Int}
theorem Rw.openG {g : Nat} (h : Rw w base e (some ⟨g, 0, none⟩) n c xs) : ∃ cur, base ≤ g ∧ g < w.heap.size ∧ Own w g cur e ∧ cur.size = c ∧ n ≤ c ∧ c ≤ maxLen ∧ cur.toList.take n = xs := by
  rcases h.2 with ⟨hv, hn⟩ | ⟨g, cap, cur, hv, hb', hg, hc, hm, hs, ht⟩
  · cases hv
  · cases hv
    exact ⟨cur, hb', (Array.getElem?_eq_some_iff.1 hg).1, hg, by simpa using hs, hc, hm, by simpa using ht⟩
theorem Rw.keepG {g : Nat} (h : Rw w base e (some ⟨g, 0, none⟩) n c xs) (hs : Step F w w') (hF : ¬ F g) : Rw w' base e (some ⟨g, 0, none⟩) n c xs := by
  obtain ⟨cur, hb, hl, ho, h1, h2, h3, h4⟩ := h.openG
  exact Rw.of_own (ho.step hs hF) hb h1 h2 h3 h4
theorem Rw.putI {g j : Nat} {cur : Array Value} {v : Int} (hx : cur.toList.take n = iL k bs) (hw : Wr w w' g (setRow cur j [.int k v]) e) (hb : base ≤ g) (hs : cur.size = c) (hn : n ≤ c) (hm : c ≤ maxLen) (hj : j < n) : Rw w' base e (some ⟨g, 0, none⟩) n c (iL k (bs.set j v)) := by
  rw [iL_set]; exact Rw.put hx hw hb hs hn hm hj
theorem Rw.ldI {g j : Nat} {t : TypeId} (h : Rw w base e (some ⟨g, 0, none⟩) n c (iL k bs)) (ht : oneB P t = true) (hj : j < n) : Loads P t w ⟨g, j, none⟩ (.int k (bs.getD j 0)) :=
  h.ld ht (iL_get j (by have := h.len; simp at this; omega))
theorem Rw.slI (h : Rw w base e A n c (iL k bs)) : Sl w w.heap.size A (iL k bs) := h.sl
theorem Rw.lenI (h : Rw w base e A n c (iL k bs)) : bs.length = n := by have := h.len; simpa using this
theorem Sl.ldI {b o : Nat} {t : TypeId} (h : Sl w B (some ⟨b, o, none⟩) (iL k bs)) (ht : oneB P t = true) (j : Nat) (hj : j < bs.length) : Loads P t w ⟨b, o + j, none⟩ (.int k (bs.getD j 0)) := h.ld ht j (iL_get j hj)
theorem Sl.ldI0 {b : Nat} {t : TypeId} (h : Sl w B (some ⟨b, 0, none⟩) (iL k bs)) (ht : oneB P t = true) (j : Nat) (hj : j < bs.length) : Loads P t w ⟨b, j, none⟩ (.int k (bs.getD j 0)) := h.ld0 ht j (iL_get j hj)
theorem Sl.openI (h : Sl w B A (iL k bs)) (h0 : 0 < bs.length) : ∃ b o, A = some ⟨b, o, none⟩ ∧ b < B := h.open (by simpa using h0)
theorem Own.slI {b : Nat} (h : Own w b (iA k bs) e) (hB : b < B) : Sl w B (some ⟨b, 0, none⟩) (iL k bs) := by simpa [iA] using h.sl hB
theorem Loads.arr1 {b j : Nat} {t : TypeId} (h : Own w b (iA k bs) e) (ht : oneB P t = true) (hj : j < bs.length) : Loads P t w ⟨b, j, none⟩ (.int k (bs.getD j 0)) := Loads.own1 h ht (iA_get j hj)
theorem Loads.arr {b : Nat} {t : TypeId} {N : Nat} (h : Own w b (iA k bs) e) (ht : aggB P t = some N) (hn : bs.length = N) : Loads P t w ⟨b, 0, none⟩ (.agg (iA k bs)) :=
  Loads.own h ht (by simp [hn]) (by rw [Nat.zero_add, ← hn, ← iA_size (k := k)]; simp)
theorem setRow_all {c : Array Value} (h : c.size = bs.length) : setRow c 0 (iA k bs).toList = iA k bs := by
  apply Array.ext_getElem?
  intro q
  rw [getElem?_setRow _ _ _ (by simp [iA]; omega)]
  by_cases hq : q < bs.length
  · rw [if_pos (by simp [iA]; omega)]; simp [iA]
  · rw [if_neg (by simp [iA]; omega), Array.getElem?_eq_none (by omega), Array.getElem?_eq_none (by simp; omega)]
end
section
variable {r : Option Nat} {n : Nat} {ds : List Deferred} {P : Program} {ops : Array Oper} {Q : Exit → Act → World → Prop} {l : List (Nat × Value)} {w : World} {i : Nat} {K : List (Nat × Value) → World → Prop}
def storeOpA (P : Program) (ops : Array Oper) (l : List (Nat × Value)) (i : Nat) : Option (Nat × Nat × Nat × Value) :=
  match theOp ops l i with
  | some { dst := none, op := .store t x y, .. } => match evL l x with
    | .pointer (some ⟨b, o, none⟩) => match P.info? t with
      | some inf => some (inf.size, b, o, evL l y)
      | none => none
    | _ => none
  | _ => none
theorem V1_storeA {b o sz : Nat} {v : Value} {c : Array Value} {e : TypeId} (h : storeOpA P ops l i = some (sz, b, o, v)) (hone : ∀ u ∈ v.cells.toList, oneC u = true) (hv : v.cells.size = sz) (hB : Own w b c e) (hsz : o + sz ≤ c.size) (next : ∀ w1, Wr w w1 b (setRow c o v.cells.toList) e → K l w1) : V1 r n ds P ops Q i l w K := by
  unfold storeOpA at h
  split at h
  · rename_i _ t x y ty pos aft gd ho
    split at h
    · rename_i b' o' hx
      split at h
      · rename_i inf hinf
        simp only [Option.some.injEq, Prod.mk.injEq] at h
        obtain ⟨hs, rfl, rfl, rfl⟩ := h
        obtain ⟨w1, hr, hwr⟩ := run_storeCells (P := P) (o := o') (evL l y).cells.toList 0 w c e hB (by simp; omega) hone
        refine V1_skip ho rfl ?_ (next w1 hwr)
        simp only [execOp, Instr.storeAt, Instr.sureAddr, hx, Sem.run_bind, Sem.run_pure, Result.andThen_ok, storeVar, run_sizeOf hinf, hv, hs, ne_eq, not_true_eq_false, if_false, hr]
      · cases h
    · cases h
  · cases h
theorem VL_storeA {k : IntKind} {bs : List Int} {b sz : Nat} {c : Array Value} {e : TypeId} (h : storeOpA P ops l i = some (sz, b, 0, .agg (iA k bs))) (hi : Nat.blt i ops.size = true) (hv : bs.length = sz) (hB : Own w b c e) (hsz : c.size = sz) (next : ∀ w1, Wr w w1 b (iA k bs) e → VL r n ds P ops Q (i + 1) l w1) : VL r n ds P ops Q i l w :=
  VL_of_V1 hi (V1_storeA h (fun u hu => iL_one (k := k) (bs := bs) u (by simpa [Value.cells, iA] using hu)) (by simp [Value.cells, hv]) hB (by omega) fun w1 hw => next w1 (by
    have := setRow_all (k := k) (bs := bs) (c := c) (by omega)
    simp only [Value.cells] at hw
    rwa [this] at hw))
end
section
variable {r : Option Nat} {n : Nat} {ds : List Deferred} {P : Program} {ops : Array Oper} {Q : Exit → Act → World → Prop} {tbl : List (List Nat)} {m : Nat} {l : List (Nat × Value)} {R : World → World → Prop} {ch : List Nat} {w : World}
theorem VTc_appendS {k d e mm c m2 c2 bytes : Nat} {A A2 : Option Addr} {is : List Nat} {kn : List (Nat × Value)} (h : appOpS P n ops (lkn ops tbl m l kn k) k = some (d, e, A, mm, c, A2, m2, c2)) (hd : dstOf ops k = some d) (hi : appInfo P e = some (1, bytes)) (base B : Nat) (xs news : List Value) (hown : Rw w base e A mm c xs)
    (hl : news.length = m2) (hnews : Sl w B A2 news) (h1 : ∀ u ∈ news, oneC u = true) (N : Nat) (hN : mm + m2 = N) (h63 : N ≤ maxLen) (hbytes : N * bytes ≤ 140737488355328) (hbase : base ≤ w.heap.size)
    (hR : ∀ w1, Step (fun k => base ≤ k) w w1 → R w w1)
    (next : ∀ A' c' w', Rw w' base e A' N c' (xs ++ news) → Step (fun k => base ≤ k) w w' → VT r n ds P ops Q tbl m l R ch is ((k, .slice A' N c') :: kn) w') : VTc r n ds P ops Q tbl m l R ch k is kn w := by
  subst hN
  exact V1_appendS h hi base B xs news hown hl hnews h1 h63 hbytes hbase fun A' c' w' hr hs => ⟨hR w' hs, .inl ⟨_, d, hd, look_head, next A' c' w' hr hs⟩⟩
theorem VT_slice {k d b o sz len cap : Nat} {lo hi mx : Option Int} {is : List Nat} {kn : List (Nat × Value)} (h : sliceOp P n ops (lkn ops tbl m l kn k) k = some (d, b, o, sz, len, cap, lo, hi, mx)) (hd : dstOf ops k = some d) (hno : mx ≠ none → hi ≠ none) (L H M : Nat)
    (hl : lo.getD 0 = L) (hh : hi.getD len = H) (hm : mx.getD cap = M) (h1 : L ≤ H) (h2 : H ≤ M) (h3 : M ≤ cap) (o' : Nat) (ho' : (if M = L then o else o + L * sz) = o') (N : Nat) (hN : H - L = N) (C : Nat) (hC : M - L = C) (next : VT r n ds P ops Q tbl m l R ch is ((k, .slice (some ⟨b, o', none⟩) N C) :: kn) w) : VT r n ds P ops Q tbl m l R ch (k :: is) kn w := by
  subst hN; subst hC
  exact VT_float _ (fun w' hR => V1_slice h hno L H M hl hh hm h1 h2 h3 o' ho' ⟨⟨d, hd, look_head⟩, Step.refl _ _⟩) next
end
/-! ### 5. Shifts by a variable -/
section
variable {r : Option Nat} {n : Nat} {ds : List Deferred} {P : Program} {ops : Array Oper} {Q : Exit → Act → World → Prop} {l : List (Nat × Value)} {w : World} {i : Nat} {K : List (Nat × Value) → World → Prop}
def shrOp (n : Nat) (ops : Array Oper) (l : List (Nat × Value)) (i : Nat) : Option (Nat × IntKind × Int × Int) :=
  match theOp ops l i with
  | some { dst := some d, op := .binOp .shr _ x y _, .. } => match evL l x, evL l y with
    | .int k a, .int _ b => bif Nat.blt d n then some (d, k, a, b) else none
    | _, _ => none
  | _ => none
theorem V1_shr {d : Nat} {k : IntKind} {x y : Int} (h : shrOp n ops l i = some (d, k, x, y)) (j : Nat) (hy : y = (j : Nat)) (hj : j ≤ k.bits) (next : K ((d, .int k (x.fdiv (2 ^ j))) :: l) w) : V1 r n ds P ops Q i l w K := by
  unfold shrOp at h
  split at h
  · rename_i _ d' t a b u ty pos aft gd ho
    split at h
    · rename_i k' xa yk yb hx hyv
      cases hb : Nat.blt d' n with
      | false => rw [hb] at h; cases h
      | true =>
        rw [hb] at h
        simp only [cond_true, Option.some.injEq, Prod.mk.injEq] at h
        obtain ⟨rfl, rfl, rfl, rfl⟩ := h
        refine V1_value ho rfl hb ?_ next
        subst hy
        have h0 : ¬ (j : Int) < 0 := by omega
        simp [execOp, eqGuard, binOp, Op.shift, hx, hyv, Sem.run_bind, h0, Nat.min_eq_left hj]
    · cases h
  · cases h
theorem VL_shr {d : Nat} {k : IntKind} {x y : Int} (h : shrOp n ops l i = some (d, k, x, y)) (hi : Nat.blt i ops.size = true) (j : Nat) (hy : y = (j : Nat)) (hj : j ≤ k.bits) (next : VL r n ds P ops Q (i + 1) ((d, .int k (x.fdiv (2 ^ j))) :: l) w) : VL r n ds P ops Q i l w :=
  VL_of_V1 hi (V1_shr h j hy hj next)
end
/-! ### 6. make -/
section
variable {r : Option Nat} {n : Nat} {ds : List Deferred} {P : Program} {ops : Array Oper} {Q : Exit → Act → World → Prop} {l : List (Nat × Value)} {w : World} {i : Nat} {K : List (Nat × Value) → World → Prop}
def mkOp (n : Nat) (ops : Array Oper) (l : List (Nat × Value)) (i : Nat) : Option (Nat × TypeId × Int × Int) :=
  match theOp ops l i with
  | some { dst := some d, op := .makeSlice t x y, .. } => match evL l x, evL l y with
    | .int .i64 a, .int .i64 b => bif Nat.blt d n then some (d, t, a, b) else none
    | _, _ => none
  | _ => none
theorem run_makeSlice {t e : TypeId} {inf : TypeInfo} {k : IntKind} (ht : P.underlying t = some (.slice e)) (hi : P.info? e = some inf) (hz : inf.zero = some (.int k 0)) (hs : inf.size = 1) (m : Nat) (hm : inf.bytes * m ≤ 281474976710656) (hm2 : m ≤ 4611686018427387904) :
    (Instr.makeSlice t (.int .i64 (m : Int)) (.int .i64 (m : Int))).run P w = .ok (.slice (some ⟨w.heap.size, 0, none⟩) m m) (w.alloc (.cells (iA k (List.replicate m 0)) e)) := by
  have hw : IntKind.wrap .i64 (m : Int) = (m : Int) := wrap_i64 _ (by omega) (by omega)
  have hb : ¬ (281474976710656 : Int) < (inf.bytes : Int) * (m : Int) := by
    have h1 : ((inf.bytes * m : Nat) : Int) ≤ 281474976710656 := Int.ofNat_le.2 hm
    rw [Int.natCast_mul] at h1
    omega
  have h0 : ¬ (m : Int) < 0 := by omega
  have hzc : ((Array.range m).map fun x => (Value.int k 0).cells[x % (Value.int k 0).cells.size]!) = iA k (List.replicate m 0) := by
    apply Array.ext
    · simp
    · intro q h1 h2
      simp [Value.cells, iA, iL]
      simp [Nat.mod_one]
  have e1 : decide ((m : Int) < 0) = false := decide_eq_false h0
  have e2 : decide ((inf.bytes : Int) * (m : Int) > 2 ^ 48) = false := decide_eq_false (by rw [show ((2 : Int) ^ 48) = 281474976710656 from rfl]; exact hb)
  have e3 : decide ((m : Int) > (m : Int)) = false := decide_eq_false (by omega)
  have hai : ∀ w : World, (asInt (.int .i64 (m : Int))).run P w = .ok (m : Int) w := fun w => by simp [asInt, asIntOf]
  have hti : (typeInfo e).run P w = .ok inf w := by simp only [typeInfo, program, Sem.run_bind, Sem.run, Result.andThen_ok, hi]; rfl
  have hzv : (zeroValue e).run P w = .ok (.int k 0) w := by simp [zeroValue, typeInfo, program, Sem.run, hi, hz]
  unfold Instr.makeSlice
  simp only [Sem.run_bind, run_underlying' ht, Result.andThen_ok, hai, Sem.run_pure, hti, hw, e1, e2, e3, Bool.false_or, Bool.or_self, Bool.false_eq_true, if_false, run_askRoom, run_sizeOf hi, hs, Int.toNat_natCast, Nat.mul_one]
  by_cases hm0 : m = 0
  · subst hm0
    simp only [if_true, Sem.run_bind, Sem.run_pure, Result.andThen_ok, newRow, newObj, Sem.run]
    rw [show (Array.range 0) = #[] from rfl]
    simp only [Array.map_empty]
    rfl
  · simp only [if_neg hm0, Sem.run_bind, Sem.run_pure, Result.andThen_ok, hzv, newRow, newObj, Sem.run, hzc]
    rfl
theorem V1_make {d t e : TypeId} {k : IntKind} {a b : Int} {bytes : Nat} (h : mkOp n ops l i = some (d, t, a, b)) (ht : P.underlying t = some (.slice e)) (hi : (P.info? e).map (fun i => (i.zero, i.size, i.bytes)) = some (some (.int k 0), 1, bytes)) (m : Nat) (ha : a = (m : Nat)) (hb : b = (m : Nat)) (hm : bytes * m ≤ 281474976710656) (hm2 : m ≤ 4611686018427387904)
    (next : ∀ g w1, New w w1 g (.cells (iA k (List.replicate m 0)) e) → K ((d, .slice (some ⟨g, 0, none⟩) m m) :: l) w1) : V1 r n ds P ops Q i l w K := by
  obtain ⟨inf, hinf, hh⟩ := Option.map_eq_some_iff.1 hi
  simp only [Prod.mk.injEq] at hh
  obtain ⟨hz, hs, hby⟩ := hh
  subst hby; subst ha; subst hb
  unfold mkOp at h
  split at h
  · rename_i _ d' t' x y ty pos aft gd ho
    split at h
    · rename_i xa yb hx hy
      cases hq : Nat.blt d' n with
      | false => rw [hq] at h; cases h
      | true =>
        rw [hq] at h
        simp only [cond_true, Option.some.injEq, Prod.mk.injEq] at h
        obtain ⟨rfl, rfl, rfl, rfl⟩ := h
        refine V1_value ho rfl hq ?_ (next w.heap.size _ ⟨rfl, rfl⟩)
        simp only [execOp, hx, hy, Sem.run_bind, run_makeSlice ht hinf hz hs m hm hm2, Result.andThen_ok, Sem.run_pure]
    · cases h
  · cases h
theorem VL_make {d t e : TypeId} {k : IntKind} {a b : Int} {bytes : Nat} (h : mkOp n ops l i = some (d, t, a, b)) (hi' : Nat.blt i ops.size = true) (ht : P.underlying t = some (.slice e)) (hi : (P.info? e).map (fun i => (i.zero, i.size, i.bytes)) = some (some (.int k 0), 1, bytes)) (m : Nat) (ha : a = (m : Nat)) (hb : b = (m : Nat)) (hm : bytes * m ≤ 281474976710656) (hm2 : m ≤ 4611686018427387904)
    (next : ∀ g w1, New w w1 g (.cells (iA k (List.replicate m 0)) e) → VL r n ds P ops Q (i + 1) ((d, .slice (some ⟨g, 0, none⟩) m m) :: l) w1) : VL r n ds P ops Q i l w :=
  VL_of_V1 hi' (V1_make h ht hi m ha hb hm hm2 next)
theorem Rw.made {w : World} {g e m : Nat} {k : IntKind} (ho : Own w g (iA k (List.replicate m 0)) e) (hm : m ≤ maxLen) : Rw w g e (some ⟨g, 0, none⟩) m m (iL k (List.replicate m 0)) :=
  Rw.of_own ho (Nat.le_refl _) (by simp) (Nat.le_refl _) hm (by rw [List.take_of_length_le (by simp [iA])]; simp [iA])
theorem Own.slSub {w : World} {b B : Nat} {c : Array Value} {e : TypeId} (h : Own w b c e) (hB : b < B) (o m : Nat) : Sl w B (some ⟨b, o, none⟩) ((c.toList.drop o).take m) := by
  have := (h.sl hB).sub o m
  rwa [Nat.zero_add] at this
end
/-! ### 7. copy out of a slice that may be nil -/
def putL {α : Type} (c : List α) (o : Nat) (vs : List α) : List α := c.take o ++ vs ++ c.drop (o + vs.length)
theorem putL_len {α : Type} {c : List α} {o : Nat} {vs : List α} (h : o + vs.length ≤ c.length) : (putL c o vs).length = c.length := by simp [putL]; omega
theorem setRow_putL (c : Array Value) (o : Nat) (vs : List Value) (h : o + vs.length ≤ c.size) : (setRow c o vs).toList = putL c.toList o vs := by
  apply List.ext_getElem?
  intro q
  rw [Array.getElem?_toList, getElem?_setRow vs c o h, putL, List.append_assoc]
  by_cases h1 : q < o
  · rw [if_neg (by omega), List.getElem?_append_left (by simp; omega), List.getElem?_take, if_pos h1]; simp
  · rw [List.getElem?_append_right (by simp; omega)]
    have e : (c.toList.take o).length = o := by simp; omega
    rw [e]
    by_cases h2 : q < o + vs.length
    · rw [if_pos ⟨by omega, h2⟩, List.getElem?_append_left (by omega)]
    · rw [if_neg (by omega), List.getElem?_append_right (by omega), List.getElem?_drop]
      simp
      congr 1; omega
theorem iA_putL {k : IntKind} {bs vs : List Int} (o : Nat) (h : o + vs.length ≤ bs.length) : setRow (iA k bs) o (iL k vs) = iA k (putL bs o vs) := by
  apply Array.toList_inj.1
  rw [setRow_putL _ _ _ (by simpa using h)]
  simp [iA, iL, putL]
section
variable {r : Option Nat} {n : Nat} {ds : List Deferred} {P : Program} {ops : Array Oper} {Q : Exit → Act → World → Prop} {l : List (Nat × Value)} {w : World} {i : Nat} {K : List (Nat × Value) → World → Prop}
def copyOpS (P : Program) (n : Nat) (ops : Array Oper) (l : List (Nat × Value)) (i : Nat) : Option (Nat × Nat × Nat × Nat × Option Addr × Nat) :=
  match theOp ops l i with
  | some { dst := some d, op := .call { callee := .builtin .copy, args := ags, argTypes := ts }, .. } =>
    match ((ts[0]?).bind P.underlying : Option TypeDesc), ((ags.map (evL l))[0]? : Option Value), ((ags.map (evL l))[1]? : Option Value) with
    | some (TypeDesc.slice elem), some (Value.slice (some ⟨b, o, none⟩) dl _), some (Value.slice A2 sl _) => match (P.info? elem).map (·.size) with
      | some 1 => bif Nat.blt d n then some (d, b, o, dl, A2, sl) else none
      | _ => none
    | _, _, _ => none
  | _ => none
theorem V1_copyS {d b o dl sl B : Nat} {A2 : Option Addr} {c : Array Value} {e : TypeId} (h : copyOpS P n ops l i = some (d, b, o, dl, A2, sl)) (vs : List Value) (hvs : vs.length = sl) (hle : sl ≤ dl) (hsrc : Sl w B A2 vs) (hone : ∀ v ∈ vs, oneC v = true)
    (hB : Own w b c e) (hsz : o + vs.length ≤ c.size) (next : ∀ w1, Wr w w1 b (setRow c o vs) e → K ((d, .int .i64 (sl : Int)) :: l) w1) : V1 r n ds P ops Q i l w K := by
  unfold copyOpS at h
  split at h
  · rename_i _ d' ags ts ty pos aft gd ho
    split at h
    · rename_i elem b' o' dl' dc A2' sl' sc hu hx hy
      split at h
      · rename_i hsz'
        cases hb : Nat.blt d' n with
        | false => rw [hb] at h; cases h
        | true =>
          rw [hb] at h
          simp only [cond_true, Option.some.injEq, Prod.mk.injEq] at h
          obtain ⟨rfl, rfl, rfl, rfl, rfl, rfl⟩ := h
          obtain ⟨inf, hinf, hs⟩ := Option.map_eq_some_iff.1 hsz'
          obtain ⟨w1, hr, hwr⟩ := run_storeCells (P := P) (b := b') (o := o') vs 0 w c e hB (by omega) hone
          refine V1_value ho rfl hb ?_ (next w1 hwr)
          have hmin : Nat.min sl' dl' = sl' := Nat.min_eq_left hle
          have hfirst : (Builtin.firstCells 1 sl' (.slice A2' sl' sc)).run P w = .ok vs.toArray w := by
            rcases Nat.eq_zero_or_pos sl' with h0 | h0
            · subst h0
              obtain rfl : vs = [] := List.eq_nil_of_length_eq_zero hvs
              cases A2' <;> simp [Builtin.firstCells, loadCells, loadCellsFrom]
            · obtain ⟨b2, o2, rfl, _⟩ := hsrc.open (by omega)
              simp only [Builtin.firstCells]
              refine run_loadCells' (by omega) fun j hj => ?_
              rw [add_none]
              have hj' : j < vs.length := by omega
              rw [List.getElem?_eq_getElem hj']
              exact hsrc.get j _ (List.getElem?_eq_getElem hj')
          obtain ⟨t, ht, hu'⟩ := Option.bind_eq_some_iff.1 hu
          simp only [execOp, resolve, invoke, builtin, Builtin.copy_, Sem.run_bind, Sem.run_pure, Result.andThen_ok, hx, hy, ht, run_underlying' hu', Builtin.lenOf, run_sizeOf hinf, hs, hmin, hfirst, hr, goInt]
      · cases h
    · cases h
  · cases h
theorem VL_copyA {d b o dl sl B : Nat} {A2 : Option Addr} {k : IntKind} {bs vs : List Int} {e : TypeId} (h : copyOpS P n ops l i = some (d, b, o, dl, A2, sl)) (hi : Nat.blt i ops.size = true) (hvs : vs.length = sl) (hle : sl ≤ dl) (hsrc : Sl w B A2 (iL k vs))
    (hB : Own w b (iA k bs) e) (hsz : o + sl ≤ bs.length) (next : ∀ w1, Wr w w1 b (iA k (putL bs o vs)) e → VL r n ds P ops Q (i + 1) ((d, .int .i64 (sl : Int)) :: l) w1) : VL r n ds P ops Q i l w := by
  refine VL_of_V1 hi (V1_copyS h (iL k vs) (by simpa using hvs) hle hsrc iL_one hB (by simp; omega) fun w1 hw => next w1 ?_)
  rwa [iA_putL o (by omega)] at hw
end
/-! ### 8. Arrays are equal -/
theorem iA_are {k : IntKind} : ∀ {bs : List Int} {m : Nat}, bs.length = m → CellsAre (iA k bs).toList (rep m [.int k])
  | [], 0, _ => trivial
  | [], m + 1, h => by simp at h
  | _ :: _, 0, h => by simp at h
  | x :: bs, m + 1, h => ⟨⟨x, rfl⟩, by
      have := iA_are (k := k) (bs := bs) (m := m) (by simpa using h)
      simpa [iA, iL] using this⟩
theorem iA_cellsEq {k : IntKind} : ∀ (xs bs : List Int), cellsEq (iA k xs).toList (iA k bs).toList = (xs == bs)
  | [], [] => rfl
  | [], _ :: _ => rfl
  | _ :: _, [] => rfl
  | x :: xs, y :: bs => by
    have := iA_cellsEq (k := k) xs bs
    simp only [iA, iL, List.map_cons] at this ⊢
    show (leafEq (.int k x) (.int k y) && cellsEq _ _) = _
    rw [this]; rfl
theorem iA_eq {k : IntKind} {xs bs : List Int} (pos : Bool) : (if pos = true then cellsEq (iA k xs).toList (iA k bs).toList else !cellsEq (iA k xs).toList (iA k bs).toList) = (if pos = true then xs == bs else !(xs == bs)) := by rw [iA_cellsEq]
theorem Loads.arrSub {w : World} {k : IntKind} {bs : List Int} {e b o N : Nat} {P : Program} {t : TypeId} (h : Own w b (iA k bs) e) (ht : aggB P t = some N) (hn : o + N ≤ bs.length) : Loads P t w ⟨b, o, none⟩ (.agg ((List.range N).map fun i => Value.int k (bs.getD (o + i) 0)).toArray) := by
  refine Loads.cells ht _ (by simp) fun j hj => ?_
  rw [add_none, h.cell, iA_get _ (by omega)]
  simp [hj]
theorem Det1_shr {r : Option Nat} {n : Nat} {ds : List Deferred} {P : Program} {ops : Array Oper} {Q : Exit → Act → World → Prop} {w : World} {l : List (Nat × Value)} {i d : Nat} {k : IntKind} {x y : Int} (h : shrOp n ops l i = some (d, k, x, y)) (hd : dstOf ops i = some d) (j : Nat) (hy : y = (j : Nat)) (hj : j ≤ k.bits) : Det1 r n ds P ops Q w l i (.int k (x.fdiv (2 ^ j))) :=
  V1_shr h j hy hj ⟨d, hd, look_head, Step.refl _ _⟩
theorem Loads.row {w : World} {base e g n c : Nat} {k : IntKind} {bs : List Int} {P : Program} {t : TypeId} (h : Rw w base e (some ⟨g, 0, none⟩) n c (iL k bs)) (ht : aggB P t = some n) : Loads P t w ⟨g, 0, none⟩ (.agg (iA k bs)) := by
  have hl := h.lenI
  refine Loads.cells ht _ (by simp [hl]) fun j hj => ?_
  rw [add_none, iA_get j (by omega)]
  exact h.slI.get j _ (iL_get j (by omega))
theorem take_setRow_vs {cur : Array Value} {o n : Nat} {vs : List Value} (h : o + vs.length ≤ n) (hn : n ≤ cur.size) : (setRow cur o vs).toList.take n = putL (cur.toList.take n) o vs := by
  rw [setRow_putL _ _ _ (by omega)]
  unfold putL
  rw [List.append_assoc, List.append_assoc, List.take_append, List.take_append]
  have e1 : (cur.toList.take o).length = o := by simp; omega
  rw [e1, List.take_of_length_le (show (cur.toList.take o).length ≤ n by omega), List.take_of_length_le (show vs.length ≤ n - o by omega), List.take_take, Nat.min_eq_left (show o ≤ n by omega), List.drop_take]
  congr 3
  omega
theorem Rw.copyI {w w' : World} {base e g o n c : Nat} {k : IntKind} {bs vs : List Int} {cur : Array Value} (hx : cur.toList.take n = iL k bs) (hw : Wr w w' g (setRow cur o (iL k vs)) e) (hb : base ≤ g) (hs : cur.size = c) (hn : n ≤ c) (hm : c ≤ maxLen) (hv : o + vs.length ≤ n) : Rw w' base e (some ⟨g, 0, none⟩) n c (iL k (putL bs o vs)) :=
  Rw.of_own hw.own hb (by rw [size_setRow]; exact hs) hn hm (by rw [take_setRow_vs (by simpa using hv) (by omega), hx]; simp [putL, iL])
section
variable {r : Option Nat} {n : Nat} {ds : List Deferred} {P : Program} {ops : Array Oper} {Q : Exit → Act → World → Prop} {l : List (Nat × Value)} {w : World} {i : Nat}
theorem VL_copyR {d b o dl sl B base nn c : Nat} {A2 : Option Addr} {k : IntKind} {bs vs : List Int} {e : TypeId} (h : copyOpS P n ops l i = some (d, b, o, dl, A2, sl)) (hi : Nat.blt i ops.size = true) (hvs : vs.length = sl) (hle : sl ≤ dl) (hsrc : Sl w B A2 (iL k vs))
    (hR : Rw w base e (some ⟨b, 0, none⟩) nn c (iL k bs)) (hsz : o + sl ≤ nn) (next : ∀ w1, Rw w1 base e (some ⟨b, 0, none⟩) nn c (iL k (putL bs o vs)) → Step (Just b) w w1 → w1.heap.size = w.heap.size → VL r n ds P ops Q (i + 1) ((d, .int .i64 (sl : Int)) :: l) w1) : VL r n ds P ops Q i l w := by
  obtain ⟨cur, hb, hl, ho, h1, h2, h3, h4⟩ := hR.openG
  exact VL_of_V1 hi (V1_copyS h (iL k vs) (by simpa using hvs) hle hsrc iL_one ho (by simp; omega) fun w1 hw => next w1 (Rw.copyI h4 hw hb h1 h2 h3 (by omega)) hw.step hw.same)
end
end Go.Vc
