/- Package conns: what is told of a table is its list, in order. -/
import Derived.Test.YtfkahhkojlfmdaaCnb
import Derived.Test.YtfkahhkojlfmdaaVc18
import Derived.Test.YtfkahhkojlfmdaaVc22
import Derived.Test.YtfkahhkojlfmdaaCn7
set_option linter.unusedVariables false
set_option linter.unusedSimpArgs false
namespace Go.Vc
open Go.RowKit
theorem RwS.open {w : World} {base n c sz : Nat} {e : TypeId} {A : Option Addr} {xs : List Value} (h : RwS w sz base e A n c xs) (h0 : 0 < n) : ∃ g cur, A = some ⟨g, 0, none⟩ ∧ base ≤ g ∧ g < w.heap.size ∧ Own w g cur e ∧ cur.size = c * sz ∧ n ≤ c ∧ c ≤ maxLen ∧ cur.toList.take (n * sz) = xs := by
  rcases h.2 with ⟨hv, hn⟩ | ⟨g, cap, cur, hv, hb', hg, hc, hm, hs, ht⟩
  · omega
  · cases hv
    exact ⟨g, cur, rfl, hb', (Array.getElem?_eq_some_iff.1 hg).1, hg, hs, hc, hm, ht⟩
theorem RwS.of_own {w : World} {base n c sz g : Nat} {e : TypeId} {cur : Array Value} {xs : List Value} (ho : Own w g cur e) (hb : base ≤ g) (hs : cur.size = c * sz) (hn : n ≤ c) (hm : c ≤ maxLen) (ht : cur.toList.take (n * sz) = xs) : RwS w sz base e (some ⟨g, 0, none⟩) n c xs := by
  refine ⟨?_, .inr ⟨g, c, cur, rfl, hb, ho, hn, hm, hs, ht⟩⟩
  rw [← ht, List.length_take, Array.length_toList, hs]
  exact Nat.min_eq_left (Nat.mul_le_mul_right sz hn)
end Go.Vc
namespace Go.Proofs.Ytfkahhkojlfmdaa
open Go.Vc Go.RowKit
def usedK (s : Nat → Slot) (k : Nat) : List Slot := ((List.range k).filter fun i => (s i).used).map s
theorem usedK_yes {s : Nat → Slot} {k : Nat} (h : (s k).used = true) : usedK s (k + 1) = usedK s k ++ [s k] := by
  unfold usedK
  rw [List.range_succ, List.filter_append, List.map_append]
  simp [h]
theorem usedK_no {s : Nat → Slot} {k : Nat} (h : (s k).used = false) : usedK s (k + 1) = usedK s k := by
  unfold usedK
  rw [List.range_succ, List.filter_append, List.map_append]
  simp [h]
theorem usedK_len (s : Nat → Slot) (k : Nat) : (usedK s k).length ≤ k := by
  unfold usedK
  rw [List.length_map]
  exact Nat.le_trans (List.length_filter_le _ _) (by simp)
theorem cells_one (x : Slot) : ∀ u ∈ x.cells, oneC u = true := by
  intro u hu
  simp only [Slot.cells, List.mem_cons, List.mem_nil_iff, or_false] at hu
  rcases hu with rfl | rfl | rfl | rfl | rfl <;> rfl
theorem sort_row {w : World} {base n c : Nat} {A : Option Addr} {xs : List Slot} {e : TypeId} (hr : RwS w 5 base e A n c (flat Slot.cells xs)) (hn : xs.length = n) (hm : n ≤ 1000) :
    CV Try.prog 29 #[.slice A n c, .func (.func 30) #[] #[]] w fun v w1 => v = .tuple #[] ∧ ∃ ys, ys.Perm xs ∧ (∀ i j, i < j → j < n → ∀ x y, ys[i]? = some x → ys[j]? = some y → befK y.p y.v y.c x.p x.v x.c = false) ∧ RwS w1 5 base e A n c (flat Slot.cells ys) ∧ Step (fun k => base ≤ k) w w1 := by
  by_cases h0 : n = 0
  · subst h0
    have : xs = [] := List.eq_nil_of_length_eq_zero hn
    subst this
    refine CV.mono (sort_none A c w) ?_
    rintro v w1 ⟨rfl, rfl⟩
    exact ⟨rfl, [], List.Perm.refl _, fun i j h1 h2 => by omega, hr, Step.refl _ _⟩
  · obtain ⟨g, cur, rfl, hb, hg, ho, hs, hc, hmx, ht⟩ := hr.open (by omega)
    refine CV.mono (sort_own (c := c) ho hn (by rw [hs]; exact Nat.mul_le_mul_right 5 hc) ht hm) ?_
    rintro v w1 ⟨rfl, ys, cur', h1, h2, h3, h4, h5, h6⟩
    exact ⟨rfl, ys, h1, h2, RwS.of_own h3 hb (by rw [h4, hs]) hc hmx h5, h6.mono fun i (hi : i = g) => by rw [hi]; exact hb⟩
/-- What is used, sorted, is the list. -/
theorem sorted_is {s : Nat → Slot} {len room : Int} {L : List Ent} (hT : TabI s len room L) {ys : List Slot} (hp : ys.Perm (usedK s 128)) (hs : ∀ i j, i < j → j < (usedK s 128).length → ∀ x y, ys[i]? = some x → ys[j]? = some y → befK y.p y.v y.c x.p x.v x.c = false) : ys = L.map Ent.slot := by
  have hu : ∀ x ∈ ys, x.used = true ∧ ∃ i, i < 128 ∧ s i = x := by
    intro x hx
    obtain ⟨i, hi, rfl⟩ := List.mem_map.1 (hp.mem_iff.1 hx)
    have := List.mem_filter.1 hi
    exact ⟨this.2, i, List.mem_range.1 this.1, rfl⟩
  have hlen := hp.length_eq
  -- distinct keys
  have hnd : (usedK s 128).Pairwise fun x y => ¬ (x.p = y.p ∧ x.v = y.v ∧ x.c = y.c) := by
    unfold usedK
    rw [List.pairwise_map]
    refine List.Pairwise.imp_of_mem ?_ (List.nodup_iff_pairwise_ne.1 (List.Pairwise.filter _ List.nodup_range))
    intro i j hi hj hne ⟨h1, h2, h3⟩
    have hi := List.mem_filter.1 hi
    have hj := List.mem_filter.1 hj
    exact hne (hT.inv.apart i j (List.mem_range.1 hi.1) (List.mem_range.1 hj.1) hi.2 hj.2 h1 h2 h3)
  have hnd2 : ys.Pairwise fun x y => ¬ (x.p = y.p ∧ x.v = y.v ∧ x.c = y.c) := (hp.symm.pairwise_iff (fun h ⟨h1, h2, h3⟩ => h ⟨h1.symm, h2.symm, h3.symm⟩)).1 hnd
  have hsrt : SrtE (ys.map Slot.ent) := by
    unfold SrtE
    rw [List.pairwise_map]
    rw [List.pairwise_iff_getElem] at hnd2 ⊢
    intro i j hi hj hij
    have h1 := hs i j hij (by omega) ys[i] ys[j] (List.getElem?_eq_getElem hi) (List.getElem?_eq_getElem hj)
    have h2 := hnd2 i j hi hj hij
    exact befE_total (x := ys[j].ent) (y := ys[i].ent) (fun ⟨a, b, c⟩ => h2 ⟨a.symm, b.symm, c.symm⟩) h1
  have hM : ys.map Slot.ent = L := by
    refine srt_ext hsrt hT.srt fun x => ?_
    rw [hT.mem]
    constructor
    · intro hx
      obtain ⟨y, hy, rfl⟩ := List.mem_map.1 hx
      obtain ⟨h1, i, hi, h2⟩ := hu y hy
      rw [slot_ent h1]
      exact ⟨h1, i, hi, h2⟩
    · rintro ⟨h1, i, hi, h2⟩
      refine List.mem_map.2 ⟨x.slot, hp.mem_iff.2 (List.mem_map.2 ⟨i, List.mem_filter.2 ⟨List.mem_range.2 hi, by rw [h2]; rfl⟩, h2⟩), rfl⟩
  rw [← hM, List.map_map]
  conv => lhs; rw [← List.map_id ys]
  refine List.map_congr_left fun x hx => ?_
  exact (slot_ent (hu x hx).1).symm
/-- What is handed on, entry by entry. -/
def entV (L : List Ent) : List (Array Value) := L.map fun x => #[.agg #[.int .i64 x.p, .int .i64 x.v, .int .i64 x.c], .int .i64 x.n]
theorem entV_get {L : List Ent} {k : Nat} {x : Ent} (h : L[k]? = some x) : (entV L)[k]? = some #[.agg #[.int .i64 x.p, .int .i64 x.v, .int .i64 x.c], .int .i64 x.n] := by
  unfold entV; rw [List.getElem?_map, h]; rfl
theorem entV_inv {L : List Ent} {k : Nat} {args : Array Value} (h : (entV L)[k]? = some args) : ∃ x, L[k]? = some x ∧ args = #[.agg #[.int .i64 x.p, .int .i64 x.v, .int .i64 x.c], .int .i64 x.n] := by
  unfold entV at h
  rw [List.getElem?_map] at h
  obtain ⟨x, h1, h2⟩ := Option.map_eq_some_iff.1 h
  exact ⟨x, h1, h2.symm⟩
theorem entV_len (L : List Ent) : (entV L).length = L.length := by simp [entV]
theorem encT_slots (s : Nat → Slot) (len room : Int) (k : Nat) (hk : k < 128) : ((encT s len room).extract 0 640).extract (k * 5) (k * 5 + 5) = (s k).cells.toArray := by
  rw [← encT_all s len room k hk]
  apply Array.ext_getElem?
  intro j
  simp only [Array.getElem?_extract, Array.size_extract, encT_size]
  by_cases hj : j < 5
  · rw [if_pos (by omega), if_pos (by omega), if_pos (by omega)]
    congr 1; omega
  · rw [if_neg (by omega), if_neg (by omega)]
theorem Loads.slots {w : World} {b : Nat} {s : Nat → Slot} {len room : Int} {T : TypeId} {P : Program} {t : TypeId} (ho : Own w b (encT s len room) T) (ht : aggB P t = some 640) : Loads P t w ⟨b, 0, none⟩ (.agg ((encT s len room).extract 0 640)) := by
  refine Loads.cells ht _ (by simp [encT_size]) fun j hj => ?_
  rw [add_none, ho.cell, Nat.zero_add, Array.getElem?_extract, encT_size, if_pos (by omega), Nat.zero_add]
end Go.Proofs.Ytfkahhkojlfmdaa
