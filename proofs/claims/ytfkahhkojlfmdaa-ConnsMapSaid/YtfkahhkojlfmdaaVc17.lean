/- Rows of one's own whose elements have any number of cells; append to them; views whose block lies between two bounds. -/
import Derived.Test.YtfkahhkojlfmdaaVc16
set_option linter.unusedVariables false
set_option linter.unusedSimpArgs false
namespace Go.Vc
open Go.RowKit
/-- The block at which an address points. -/
def ownB (A : Option Addr) (k : Nat) : Prop := ∃ a, A = some a ∧ a.block = k
def RwS (w : World) (sz base : Nat) (e : TypeId) (A : Option Addr) (n c : Nat) (xs : List Value) : Prop := w.ownsRow base e sz (.slice A n c) n xs
section
variable {F : Nat → Prop} {w w' w0 : World} {B base base' n n' c c' sz : Nat} {e : TypeId} {A : Option Addr} {xs ys : List Value} {P : Program}
theorem RwS.len (h : RwS w sz base e A n c xs) : xs.length = n * sz := h.1
theorem RwS.nil (w : World) (sz base : Nat) (e : TypeId) : RwS w sz base e none 0 0 [] := World.ownsRow_nil w base e sz
theorem RwS.cast (h : RwS w sz base e A n c xs) (hn : n = n') (hx : xs = ys) : RwS w sz base e A n' c ys := by subst hn; subst hx; exact h
/-- What keeps the row's own block keeps the row. -/
theorem RwS.keepO (h : RwS w sz base e A n c xs) (hs : Step F w w') (hF : ∀ k, ownB A k → ¬ F k) : RwS w' sz base e A n c xs := by
  refine ⟨h.1, ?_⟩
  rcases h.2 with hn | ⟨g, cap, cur, hv, hb, hg, rest⟩
  · exact .inl hn
  · refine .inr ⟨g, cap, cur, hv, hb, (hs.block g (Array.getElem?_eq_some_iff.1 hg).1 (hF g ?_)).trans hg, rest⟩
    cases hv
    exact ⟨_, rfl, rfl⟩
theorem RwS.lt (h : RwS w sz base e A n c xs) (k : Nat) (hk : ownB A k) : base ≤ k ∧ k < w.heap.size := by
  obtain ⟨a, rfl, rfl⟩ := hk
  rcases h.2 with ⟨hv, _⟩ | ⟨g, cap, cur, hv, hb, hg, rest⟩
  · cases hv
  · cases hv; exact ⟨hb, (Array.getElem?_eq_some_iff.1 hg).1⟩
theorem RwS.step (h : RwS w sz base e A n c xs) (hs : Step F w w') (hF : ∀ k, base ≤ k → ¬ F k) : RwS w' sz base e A n c xs := h.keepO hs fun k hk => hF k (h.lt k hk).1
theorem RwS.no (h : RwS w sz base e A n c xs) (hs : Step No w w') : RwS w' sz base e A n c xs := h.step hs fun _ _ => id
theorem RwS.low (h : RwS w sz base e A n c xs) (hb : base' ≤ base) : RwS w sz base' e A n c xs := by
  refine ⟨h.1, ?_⟩
  rcases h.2 with hn | ⟨g, cap, cur, hv, hb', rest⟩
  · exact .inl hn
  · exact .inr ⟨g, cap, cur, hv, by omega, rest⟩
theorem RwS.cap (h : RwS w sz base e A n c xs) : n ≤ c := by
  rcases h.2 with ⟨hv, hn⟩ | ⟨g, cap, cur, hv, hb', _, hc, _⟩
  · cases hv; omega
  · cases hv; exact hc
/-- A view whose block lies between two bounds. -/
def Sl2 (w : World) (lo hi : Nat) (A : Option Addr) (xs : List Value) : Prop :=
  0 < xs.length → ∃ b o, A = some ⟨b, o, none⟩ ∧ lo ≤ b ∧ b < hi ∧ ∀ j u, xs[j]? = some u → w.cell? ⟨b, o + j, none⟩ = some u
theorem Sl2.sl {lo hi : Nat} (h : Sl2 w lo hi A xs) : Sl w hi A xs := fun h0 => by
  obtain ⟨b, o, hA, _, hb, hc⟩ := h h0
  exact ⟨b, o, hA, hb, hc⟩
theorem Sl.sl2 {hi : Nat} (h : Sl w hi A xs) : Sl2 w 0 hi A xs := fun h0 => by
  obtain ⟨b, o, hA, hb, hc⟩ := h h0
  exact ⟨b, o, hA, Nat.zero_le _, hb, hc⟩
theorem Sl2.step {lo hi : Nat} (h : Sl2 w lo hi A xs) (hs : Step F w w') (hF : ∀ k, lo ≤ k → k < hi → ¬ F k) : Sl2 w' lo hi A xs := by
  intro h0
  obtain ⟨b, o, hA, h1, h2, hc⟩ := h h0
  exact ⟨b, o, hA, h1, h2, fun j u hu => hs.cell (hF b h1 h2) (hc j u hu)⟩
theorem Sl2.mono {lo hi lo' hi' : Nat} (h : Sl2 w lo hi A xs) (h1 : lo' ≤ lo) (h2 : hi ≤ hi') : Sl2 w lo' hi' A xs := by
  intro h0
  obtain ⟨b, o, hA, h3, h4, hc⟩ := h h0
  exact ⟨b, o, hA, by omega, by omega, hc⟩
theorem RwS.sl2 (h : RwS w sz base e A n c xs) : Sl2 w base w.heap.size A xs := by
  intro h0
  rcases h.2 with ⟨hv, hn⟩ | ⟨g, cap, cur, hv, hb', hg, _, _, _, ht⟩
  · have := h.1; subst hn; rw [Nat.zero_mul] at this; omega
  · cases hv
    refine ⟨g, 0, rfl, hb', (Array.getElem?_eq_some_iff.1 hg).1, fun j u hu => ?_⟩
    rw [Nat.zero_add, (show Own w g cur e from hg).cell]
    rw [← ht, List.getElem?_take] at hu
    split at hu
    · simpa using hu
    · cases hu
theorem RwS.of_row {v : Value} (h : w.ownsRow base e sz v n xs) : ∃ A c, v = .slice A n c ∧ RwS w sz base e A n c xs := by
  rcases h.2 with ⟨hv, hn⟩ | ⟨g, cap, cur, hv, hb', _⟩
  · subst hv; subst hn; exact ⟨none, 0, rfl, h⟩
  · subst hv; exact ⟨_, _, rfl, h⟩
theorem RwS.grown (h : RwS w sz base e A n c xs) (hg : w.grownBy w' (Value.slice A n c).ownBlock) : Step (ownB A) w w' :=
  Step.of_grown hg fun k hk _ => by
    cases A with
    | none => cases hk
    | some a => simp only [Value.ownBlock, Option.some.injEq] at hk; exact ⟨a, rfl, hk⟩
theorem RwS.of_new {g : Nat} {cur : Array Value} (ho : Own w g cur e) (hb : base ≤ g) (hm : n ≤ maxLen) (hs : cur.size = n * sz) : RwS w sz base e (some ⟨g, 0, none⟩) n n cur.toList := by
  refine ⟨by simpa using hs, .inr ⟨g, n, cur, rfl, hb, ho, Nat.le_refl _, hm, hs, ?_⟩⟩
  rw [← hs, ← Array.length_toList, List.take_length]
/-- Rows of two types have two blocks. -/
theorem RwS.apart {sz' base' n' c' : Nat} {e' : TypeId} {A' : Option Addr} {ys : List Value} (h : RwS w sz base e A n c xs) (h' : RwS w sz' base' e' A' n' c' ys) (hne : e ≠ e') (k : Nat) (hk : ownB A k) : ¬ ownB A' k := by
  rintro ⟨a', rfl, rfl⟩
  obtain ⟨a, rfl, hab⟩ := hk
  rcases h.2 with ⟨hv, _⟩ | ⟨g, cap, cur, hv, _, hg, _⟩
  · cases hv
  · rcases h'.2 with ⟨hv', _⟩ | ⟨g', cap', cur', hv', _, hg', _⟩
    · cases hv'
    · cases hv; cases hv'
      simp only at hab
      subst hab
      rw [hg] at hg'
      simp only [Option.some.injEq, Obj.cells.injEq] at hg'
      exact hne hg'.2.1
theorem Rw.toS (h : Rw w base e A n c xs) : RwS w 1 base e A n c xs := h
theorem RwS.to1 (h : RwS w 1 base e A n c xs) : Rw w base e A n c xs := h
end
section
variable {r : Option Nat} {n : Nat} {ds : List Deferred} {P : Program} {ops : Array Oper} {Q : Exit → Act → World → Prop} {l : List (Nat × Value)} {w : World} {i : Nat} {K : List (Nat × Value) → World → Prop}
theorem V1_appendZ {d e m c m2 c2 sz bytes : Nat} {A A2 : Option Addr} (h : appOpS P n ops l i = some (d, e, A, m, c, A2, m2, c2)) (hi : appInfo P e = some (sz, bytes)) (base B : Nat) (xs news : List Value) (hown : RwS w sz base e A m c xs)
    (hl : news.length = m2 * sz) (hnews : Sl w B A2 news) (h1 : ∀ u ∈ news, oneC u = true) (h63 : m + m2 ≤ maxLen) (hbytes : (m + m2) * bytes ≤ 140737488355328) (hbase : base ≤ w.heap.size)
    (next : ∀ A' c' w', RwS w' sz base e A' (m + m2) c' (xs ++ news) → Step (ownB A) w w' → K ((d, .slice A' (m + m2) c') :: l) w') : V1 r n ds P ops Q i l w K := by
  unfold appInfo at hi
  split at hi
  · rename_i inf hinf
    split at hi
    · rename_i z hz
      cases hb : Nat.beq z.cells.size inf.size && Nat.blt 0 inf.size with
      | false => rw [hb] at hi; cases hi
      | true =>
        rw [hb] at hi
        simp only [cond_true, Option.some.injEq, Prod.mk.injEq] at hi
        obtain ⟨hsz, hby⟩ := hi
        simp only [Bool.and_eq_true] at hb
        have hzs := Nat.eq_of_beq_eq_true hb.1
        have hszp := blt_spec hb.2
        unfold appOpS at h
        split at h
        · rename_i _ d' ags ts ty pos aft gd ho
          split at h
          · rename_i t t' A0 m0 c0 A20 m20 c20 h0 h1' hv hx
            split at h
            · rename_i e' hu
              cases hq : Nat.blt d' n && Nat.beq t t' && Nat.beq ts.size 2 && Nat.beq ags.size 2 with
              | false => rw [hq] at h; cases h
              | true =>
                rw [hq] at h
                simp only [cond_true, Option.some.injEq, Prod.mk.injEq] at h
                obtain ⟨rfl, rfl, rfl, rfl, rfl, rfl, rfl, rfl⟩ := h
                simp only [Bool.and_eq_true] at hq
                obtain ⟨⟨⟨q1, q2⟩, q3⟩, q4⟩ := hq
                have q2 := Nat.eq_of_beq_eq_true q2
                subst q2
                have hts := arr2 (Nat.eq_of_beq_eq_true q3) h0 h1'
                have has := arr2 (by simpa using Nat.eq_of_beq_eq_true q4) hv hx
                rcases Nat.eq_zero_or_pos m20 with hz0 | hpos
                · subst hz0
                  obtain rfl : news = [] := List.eq_nil_of_length_eq_zero (by rw [hl, Nat.zero_mul])
                  refine V1_value ho rfl q1 ?_ (next A0 c0 w ((by simpa using hown : RwS w sz base e' A0 (m0 + 0) c0 (xs ++ []))) (Step.refl _ _))
                  simp only [execOp, resolve, invoke, builtin, Sem.run_bind, Sem.run_pure, Result.andThen_ok, has, hts, run_append_empty hu hinf A0 A20 m0 c0 c20 hown.cap]
                  rfl
                · obtain ⟨b', o', rfl, _⟩ := hnews.open (by rw [hl]; exact Nat.mul_pos hpos (by omega))
                  obtain ⟨v2, w2, hr, hr1, hr2, _⟩ := run_append_own (P := P) w base t ty e' inf z sz bytes hu hinf hz hsz hby (by rw [hzs, hsz]) (by omega) _ m0 xs hown ⟨b', o', none⟩ m20 c20 news hl (fun j u hj => by rw [add_none]; exact hnews.get j u hj) (fun u hu => oneC_oneCell (h1 u hu)) h63 hbytes hbase
                  obtain ⟨A', c', rfl, hR⟩ := RwS.of_row hr1
                  refine V1_value ho rfl q1 ?_ (next A' c' w2 hR (hown.grown hr2))
                  simp only [execOp, resolve, invoke, builtin, Sem.run_bind, Sem.run_pure, Result.andThen_ok, has, hts, hr]
            · cases h
          · cases h
        · cases h
    · cases hi
  · cases hi
theorem VL_appendZ {d e m c m2 c2 sz bytes : Nat} {A A2 : Option Addr} (h : appOpS P n ops l i = some (d, e, A, m, c, A2, m2, c2)) (hi' : Nat.blt i ops.size = true) (hi : appInfo P e = some (sz, bytes)) (base B : Nat) (xs news : List Value) (hown : RwS w sz base e A m c xs)
    (hl : news.length = m2 * sz) (hnews : Sl w B A2 news) (h1 : ∀ u ∈ news, oneC u = true) (N : Nat) (hN : m + m2 = N) (h63 : N ≤ maxLen) (hbytes : N * bytes ≤ 140737488355328) (hbase : base ≤ w.heap.size)
    (next : ∀ A' c' w', RwS w' sz base e A' N c' (xs ++ news) → Step (ownB A) w w' → VL r n ds P ops Q (i + 1) ((d, .slice A' N c') :: l) w') : VL r n ds P ops Q i l w := by
  subst hN
  exact VL_of_V1 hi' (V1_appendZ h hi base B xs news hown hl hnews h1 h63 hbytes hbase next)
end
section
variable {r : Option Nat} {n : Nat} {ds : List Deferred} {P : Program} {ops : Array Oper} {Q : Exit → Act → World → Prop} {tbl : List (List Nat)} {m : Nat} {l : List (Nat × Value)} {R : World → World → Prop} {ch : List Nat} {w : World}
theorem VTc_appendZ {k d e mm c m2 c2 sz bytes : Nat} {A A2 : Option Addr} {is : List Nat} {kn : List (Nat × Value)} (h : appOpS P n ops (lkn ops tbl m l kn k) k = some (d, e, A, mm, c, A2, m2, c2)) (hd : dstOf ops k = some d) (hi : appInfo P e = some (sz, bytes)) (base B : Nat) (xs news : List Value) (hown : RwS w sz base e A mm c xs)
    (hl : news.length = m2 * sz) (hnews : Sl w B A2 news) (h1 : ∀ u ∈ news, oneC u = true) (N : Nat) (hN : mm + m2 = N) (h63 : N ≤ maxLen) (hbytes : N * bytes ≤ 140737488355328) (hbase : base ≤ w.heap.size)
    (hR : ∀ w1, Step (ownB A) w w1 → R w w1)
    (next : ∀ A' c' w', RwS w' sz base e A' N c' (xs ++ news) → Step (ownB A) w w' → VT r n ds P ops Q tbl m l R ch is ((k, .slice A' N c') :: kn) w') : VTc r n ds P ops Q tbl m l R ch k is kn w := by
  subst hN
  exact V1_appendZ h hi base B xs news hown hl hnews h1 h63 hbytes hbase fun A' c' w' hr hs => ⟨hR w' hs, .inl ⟨_, d, hd, look_head, next A' c' w' hr hs⟩⟩
end
end Go.Vc
