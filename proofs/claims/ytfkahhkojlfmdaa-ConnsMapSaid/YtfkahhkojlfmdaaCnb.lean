/- The kit's sort, at a table's slots, in the calculus' words. -/
import Derived.Test.YtfkahhkojlfmdaaCna
import Derived.Test.YtfkahhkojlfmdaaCn9
import Derived.Test.YtfkahhkojlfmdaaVc22
set_option linter.unusedVariables false
set_option linter.unusedSimpArgs false
namespace Go.Proofs.Ytfkahhkojlfmdaa
open Go.Vc Go.RowKit Go.Sort Go.Shelf
/-- Slots, side by side. -/
abbrev flatS (xs : List Slot) : List Value := flat Slot.cells xs
theorem cells_len (x : Slot) : x.cells.length = 5 := rfl
theorem flatS_len (xs : List Slot) : (flatS xs).length = xs.length * 5 := flat_len cells_len xs
theorem flatS_get (xs : List Slot) (i c : Nat) (hc : c < 5) : (flatS xs)[i * 5 + c]? = (xs[i]?).bind fun x => x.cells[c]? := flat_get cells_len xs i c hc
instance : Inhabited Slot := ⟨noSlot⟩
def lessS (x y : Slot) : Int := cmpK x.p x.v x.c y.p y.v y.c
theorem lessS_lt (x y : Slot) : ltOf lessS x y = befK x.p x.v x.c y.p y.v y.c := by unfold ltOf lessS; exact cmpK_lt ..
theorem lessS_swo : SWO (ltOf lessS) where
  irrefl x := by rw [lessS_lt]; exact befK_false.2 (by omega)
  trans x y z h1 h2 := by
    rw [lessS_lt] at *
    have h1 := befK_iff.1 h1
    have h2 := befK_iff.1 h2
    exact befK_iff.2 (by omega)
  ntrans x y z h1 h2 := by
    rw [lessS_lt] at *
    have h1 := befK_false.1 h1
    have h2 := befK_false.1 h2
    exact befK_false.2 (by omega)
/-- What only lays new blocks, and draws. -/
theorem GR.grow {w w' : World} (h : Step No w w') (hd : w.drawn ≤ w'.drawn) : ∃ q os, w' = grow (w.drewN q) os := by
  refine ⟨w'.drawn - w.drawn, w'.heap.extract w.heap.size w'.heap.size, ?_⟩
  obtain ⟨h1, h2, h3, h4, h5⟩ := h
  obtain ⟨hp, tp, dr, os, out⟩ := w
  obtain ⟨hp', tp', dr', os', out'⟩ := w'
  simp only at h1 h2 h3 h4 h5 hd
  subst h1; subst h2; subst h3
  unfold Go.Sort.grow World.drewN
  simp only [World.mk.injEq, true_and, and_true]
  refine ⟨?_, by omega⟩
  apply Array.ext_getElem?
  intro i
  rw [Array.getElem?_append]
  split
  · rename_i hi; exact h5 i hi id
  · rename_i hi
    rw [Array.getElem?_extract]
    split
    · rename_i hj; congr 1; omega
    · rename_i hj; exact Array.getElem?_eq_none (by omega)
theorem sort_lays (blk off size : Nat) (w : World) : CmpLays Try.prog 30 #[] Slot.cells 5 lessS blk off size w := by
  intro m os dk hdk x y
  refine Calls.mono (less_any x y _) ?_
  rintro e w' ⟨v, rfl, rfl, hs, hd⟩
  exact ⟨rfl, GR.grow hs hd⟩
theorem sort_none (A : Option Addr) (c : Nat) (w : World) : CV Try.prog 29 #[.slice A 0 c, .func (.func 30) #[] #[]] w fun v w1 => v = .tuple #[] ∧ w1 = w := by
  have h := AnyF.slices_SortFunc_none (P := Try.prog) (ρ := Try.sortSlot_ren) Try.sortSlot A c (.func (.func 30) #[] #[]) w
  refine Calls.mono h ?_
  rintro e w' ⟨rfl, rfl⟩
  exact ⟨_, rfl, rfl, rfl⟩
theorem sort_own {w : World} {g n c : Nat} {cur : Array Value} {xs : List Slot} {e : TypeId} (ho : Own w g cur e) (hn : xs.length = n) (hsz : n * 5 ≤ cur.size) (ht : cur.toList.take (n * 5) = flatS xs) (hm : n ≤ 1000) :
    CV Try.prog 29 #[.slice (some ⟨g, 0, none⟩) n c, .func (.func 30) #[] #[]] w fun v w1 => v = .tuple #[] ∧ ∃ ys cur', ys.Perm xs ∧ (∀ i j, i < j → j < n → ∀ x y, ys[i]? = some x → ys[j]? = some y → befK y.p y.v y.c x.p x.v x.c = false) ∧ Own w1 g cur' e ∧ cur'.size = cur.size ∧ cur'.toList.take (n * 5) = flatS ys ∧ Step (Just g) w w1 := by
  have eg : ∀ args w, (callFunc 30 args).run Try.prog w = .ok (.enter 30 args) w := fun args w => Try.call30 args w
  have hH : HoldsK Slot.cells 5 w g 0 xs.toArray := by
    intro j hj
    rw [size_flatK] at hj
    have hj' : j < n * 5 := by simpa [hn] using hj
    rw [get_flatK _ _ _ _ hj]
    refine ⟨?_, ?_⟩
    · rw [Nat.zero_add, ho.cell]
      have h1 : cur.toList[j]? = (flatS xs)[j]? := by rw [← ht, List.getElem?_take, if_pos hj']
      rw [Array.getElem?_toList] at h1
      have h2 := flatS_get xs (j / 5) (j % 5) (Nat.mod_lt _ (by decide))
      rw [show j / 5 * 5 + j % 5 = j by omega] at h2
      rw [h1, h2]
      have hi : j / 5 < xs.length := by omega
      rw [List.getElem?_eq_getElem hi]
      simp only [Option.bind_some, id]
      have e1 : xs.toArray[j / 5]! = xs[j / 5] := by simp [hi]
      rw [e1]
      have h5 : j % 5 < xs[j / 5].cells.length := by rw [cells_len]; exact Nat.mod_lt _ (by decide)
      rw [List.getElem?_eq_getElem h5, getElem!_pos xs[j / 5].cells (j % 5) h5]
    · unfold World.frozen?
      rw [show w.heap[(⟨g, 0 + j, none⟩ : Addr).block]? = some (.cells cur e (0, 0)) from ho]
      simp
  have h := AnyQ.slices_SortFunc (P := Try.prog) (ρ := Try.sortSlot_ren) Try.sortSlot 5 Try.isAgg59 Try.sizeOf59 Slot.cells cells_len (fun x v hv => by simp [Slot.cells] at hv; rcases hv with rfl | rfl | rfl | rfl | rfl <;> rfl) lessS lessS_swo 30 #[] g 0 c xs.toArray w eg (sort_lays g 0 _ w) hH ho.lt (by simp; omega)
  rw [show xs.toArray.size = n by simpa using hn] at h
  refine Calls.mono h ?_
  rintro e' w' ⟨rfl, d', m, os, hp, hs, rfl⟩
  refine ⟨_, rfl, rfl, d'.toList, putCells id 0 (flatK Slot.cells 5 d') cur, ?_, ?_, ?_, ?_, ?_, ?_⟩
  · obtain ⟨p1, _, p3⟩ := hp
    have hd : d'.size = n := by rw [p1]; simpa using hn
    have e1 : d'.extract 0 n = d' := by rw [← hd]; simp
    have e2 : xs.toArray.extract 0 n = xs.toArray := by rw [← hn]; simp
    rw [e1, e2] at p3
    simpa using p3
  · intro i j hij hjn x y hx hy
    have h1 := hs i j (Nat.zero_le _) hij hjn
    have hd : d'.size = n := by rw [hp.1]; simpa using hn
    have ex : d'[i]! = x := by
      rw [Array.getElem?_toList] at hx
      rw [getElem!_pos _ _ (by omega)]
      rw [Array.getElem?_eq_getElem (by omega)] at hx
      exact Option.some.inj hx
    have ey : d'[j]! = y := by
      rw [Array.getElem?_toList] at hy
      rw [getElem!_pos _ _ (by omega)]
      rw [Array.getElem?_eq_getElem (by omega)] at hy
      exact Option.some.inj hy
    rw [ex, ey, lessS_lt] at h1
    exact h1
  · show (grow (putRow id (Sort.ahead w m) g 0 (flatK Slot.cells 5 d')) os).heap[g]? = _
    unfold Go.Sort.grow putRow mapBlock Sort.ahead
    simp only
    rw [Array.getElem?_append_left (by simpa using ho.lt), Array.getElem?_modify, if_pos rfl, show w.heap[g]? = some (.cells cur e (0, 0)) from ho]
    rfl
  · simp [putCells]
  · have hd : d'.size = n := by rw [hp.1]; simpa using hn
    apply List.ext_getElem?
    intro q
    rw [List.getElem?_take]
    by_cases hq : q < n * 5
    · rw [if_pos hq]
      have h2 := flatS_get d'.toList (q / 5) (q % 5) (Nat.mod_lt _ (by decide))
      rw [show q / 5 * 5 + q % 5 = q by omega] at h2
      rw [h2, Array.getElem?_toList, Array.getElem?_toList]
      unfold putCells
      rw [Array.getElem?_mapIdx, Array.getElem?_eq_getElem (by omega)]
      simp only [Option.map_some, id, Nat.sub_zero, Nat.zero_add]
      rw [if_pos ⟨Nat.zero_le _, by rw [size_flatK, hd]; exact hq⟩, get_flatK _ _ _ _ (by rw [hd]; exact hq)]
      have hi : q / 5 < d'.size := by omega
      rw [Array.getElem?_eq_getElem hi]
      simp only [Option.bind_some]
      rw [getElem!_pos d' (q / 5) hi]
      have h5 : q % 5 < d'[q / 5].cells.length := by rw [cells_len]; exact Nat.mod_lt _ (by decide)
      rw [List.getElem?_eq_getElem h5, getElem!_pos d'[q / 5].cells (q % 5) h5]
    · rw [if_neg hq]
      exact (List.getElem?_eq_none (by rw [flatS_len]; simp [hd]; omega)).symm
  · show Step (Just g) w (grow (putRow id (Sort.ahead w m) g 0 (flatK Slot.cells 5 d')) os)
    unfold Go.Sort.grow putRow mapBlock Sort.ahead
    refine ⟨rfl, rfl, rfl, by simp, fun k hk hne => ?_⟩
    simp only
    rw [Array.getElem?_append_left (by simpa using hk), Array.getElem?_modify, if_neg (fun e1 => hne e1.symm)]
end Go.Proofs.Ytfkahhkojlfmdaa
