import Derived.Shelf.SlSortCmp.WholeK
import Derived.Shelf.SlSortCmp.NoneTotal
import Derived.Test.YthchmlidobgkoaaProg
import Derived.Lib.MakeNoZero
import Derived.Laws.BytesString
import Derived.Sort.Grow
import Derived.Deep.Draws
import Derived.Laws.AppendOwn
import Derived.RangeFuncLeaves
import Derived.RangeFuncRecord
import Derived.Test.YthchmlidobgkoaaMl1
section
/- Package conns in plain Lean: a table is a list of entries, in order. -/
set_option linter.unusedVariables false
set_option linter.unusedSimpArgs false
namespace Go.Proofs.Ythchmlidobgkoaa
open Go.Vc
/-- An entry: a key, a number. -/
structure Ent where
  p : Int
  v : Int
  c : Int
  n : Int
deriving DecidableEq
def Ent.slot (x : Ent) : Slot := ⟨x.p, x.v, x.c, x.n, true⟩
def Slot.ent (x : Slot) : Ent := ⟨x.p, x.v, x.c, x.n⟩
/-- Is a key ahead of another one? -/
def befK (p v c p' v' c' : Int) : Bool := decide (p < p' ∨ p = p' ∧ (v < v' ∨ v = v' ∧ c < c'))
def befE (x y : Ent) : Bool := befK x.p x.v x.c y.p y.v y.c
def keyIs (x : Ent) (p v c : Int) : Bool := decide (x.p = p ∧ x.v = v ∧ x.c = c)
theorem befK_iff {p v c p' v' c' : Int} : befK p v c p' v' c' = true ↔ p < p' ∨ p = p' ∧ (v < v' ∨ v = v' ∧ c < c') := by simp [befK]
theorem befK_false {p v c p' v' c' : Int} : befK p v c p' v' c' = false ↔ ¬ (p < p' ∨ p = p' ∧ (v < v' ∨ v = v' ∧ c < c')) := by simp only [befK, decide_eq_false_iff_not]
theorem befE_irrefl (x : Ent) : befE x x = false := befK_false.2 (by omega)
theorem befE_trans {x y z : Ent} (h : befE x y = true) (k : befE y z = true) : befE x z = true := by
  have h := befK_iff.1 h
  have k := befK_iff.1 k
  exact befK_iff.2 (by omega)
theorem befE_total {x y : Ent} (h : ¬ (x.p = y.p ∧ x.v = y.v ∧ x.c = y.c)) (k : befE x y = false) : befE y x = true := by
  have k := befK_false.1 k
  exact befK_iff.2 (by omega)
theorem befE_ne {x y : Ent} (h : befE x y = true) : ¬ (x.p = y.p ∧ x.v = y.v ∧ x.c = y.c) := by
  have h := befK_iff.1 h
  omega
def SrtE (L : List Ent) : Prop := L.Pairwise fun x y => befE x y = true
theorem SrtE.nodup {L : List Ent} (h : SrtE L) : L.Nodup := by
  refine List.Pairwise.imp ?_ h
  rintro x y hxy rfl
  rw [befE_irrefl] at hxy; cases hxy
theorem SrtE.inj {L : List Ent} (h : SrtE L) {x y : Ent} (hx : x ∈ L) (hy : y ∈ L) (hk : x.p = y.p ∧ x.v = y.v ∧ x.c = y.c) : x = y := by
  induction L with
  | nil => simp at hx
  | cons z L ih =>
    obtain ⟨hz, hL⟩ := List.pairwise_cons.1 h
    rcases List.mem_cons.1 hx with e1 | hx1
    · rcases List.mem_cons.1 hy with e2 | hy1
      · rw [e1, e2]
      · rw [e1] at hk; exact absurd hk (befE_ne (hz y hy1))
    · rcases List.mem_cons.1 hy with e2 | hy1
      · rw [e2] at hk; exact absurd ⟨hk.1.symm, hk.2.1.symm, hk.2.2.symm⟩ (befE_ne (hz x hx1))
      · exact ih hL hx1 hy1
/-- Lists in order with the same members are one. -/
theorem srt_ext {L M : List Ent} (hL : SrtE L) (hM : SrtE M) (h : ∀ x, x ∈ L ↔ x ∈ M) : L = M := by
  induction L generalizing M with
  | nil =>
    cases M with
    | nil => rfl
    | cons y M => exact absurd ((h y).2 (by simp)) (by simp)
  | cons x L ih =>
    cases M with
    | nil => exact absurd ((h x).1 (by simp)) (by simp)
    | cons y M =>
      obtain ⟨hx, hL'⟩ := List.pairwise_cons.1 hL
      obtain ⟨hy, hM'⟩ := List.pairwise_cons.1 hM
      have hxy : x = y := by
        rcases List.mem_cons.1 ((h x).1 (by simp)) with e | e
        · exact e
        · rcases List.mem_cons.1 ((h y).2 (by simp)) with e' | e'
          · exact e'.symm
          · have a := befE_trans (hy x e) (hx y e')
            rw [befE_irrefl] at a; cases a
      subst hxy
      congr 1
      refine ih hL' hM' fun z => ⟨fun hz => ?_, fun hz => ?_⟩
      · rcases List.mem_cons.1 ((h z).1 (by simp [hz])) with rfl | e
        · have a := hx z hz; rw [befE_irrefl] at a; cases a
        · exact e
      · rcases List.mem_cons.1 ((h z).2 (by simp [hz])) with rfl | e
        · have a := hy z hz; rw [befE_irrefl] at a; cases a
        · exact e
/-! ### What is done with a list -/
def lookE (L : List Ent) (p v c : Int) : Option Int := (L.find? fun x => keyIs x p v c).map (·.n)
def delE (L : List Ent) (p v c : Int) : List Ent := L.filter fun x => !keyIs x p v c
/-- How many are ahead of a key. -/
def aheadE : List Ent → Int → Int → Int → Nat
  | [], _, _, _ => 0
  | x :: L, p, v, c => bif befK x.p x.v x.c p v c then aheadE L p v c + 1 else 0
def insE (L : List Ent) (x : Ent) : List Ent := L.take (aheadE L x.p x.v x.c) ++ x :: L.drop (aheadE L x.p x.v x.c)
theorem insE_cons (y : Ent) (L : List Ent) (x : Ent) : insE (y :: L) x = bif befE y x then y :: insE L x else x :: y :: L := by
  unfold insE befE
  simp only [aheadE]
  cases befK y.p y.v y.c x.p x.v x.c <;> simp
theorem mem_insE {L : List Ent} {x y : Ent} : y ∈ insE L x ↔ y = x ∨ y ∈ L := by
  unfold insE
  rw [List.mem_append, List.mem_cons]
  constructor
  · rintro (h | h | h)
    · exact .inr (List.mem_of_mem_take h)
    · exact .inl h
    · exact .inr (List.mem_of_mem_drop h)
  · rintro (h | h)
    · exact .inr (.inl h)
    · rw [← List.take_append_drop (aheadE L x.p x.v x.c) L, List.mem_append] at h
      rcases h with h | h
      · exact .inl h
      · exact .inr (.inr h)
theorem insE_srt {L : List Ent} (h : SrtE L) {x : Ent} (hx : ∀ y ∈ L, ¬ (y.p = x.p ∧ y.v = x.v ∧ y.c = x.c)) : SrtE (insE L x) := by
  induction L with
  | nil => exact List.pairwise_cons.2 ⟨fun y hy => by simp at hy, List.Pairwise.nil⟩
  | cons y L ih =>
    obtain ⟨hy, hL⟩ := List.pairwise_cons.1 h
    rw [insE_cons]
    cases hb : befE y x with
    | true =>
      refine List.pairwise_cons.2 ⟨fun z hz => ?_, ih hL fun z hz => hx z (by simp [hz])⟩
      rcases mem_insE.1 hz with rfl | hz
      · exact hb
      · exact hy z hz
    | false =>
      have hxy := befE_total (hx y (by simp)) hb
      refine List.pairwise_cons.2 ⟨fun z hz => ?_, h⟩
      rcases List.mem_cons.1 hz with rfl | hz
      · exact hxy
      · exact befE_trans hxy (hy z hz)
theorem delE_srt {L : List Ent} (h : SrtE L) (p v c : Int) : SrtE (delE L p v c) := List.Pairwise.filter _ h
theorem mem_delE {L : List Ent} {p v c : Int} {x : Ent} : x ∈ delE L p v c ↔ x ∈ L ∧ ¬ (x.p = p ∧ x.v = v ∧ x.c = c) := by
  unfold delE
  rw [List.mem_filter]
  simp only [keyIs, Bool.not_eq_true', decide_eq_false_iff_not]
theorem lookE_some {L : List Ent} (h : SrtE L) {p v c n : Int} : lookE L p v c = some n ↔ ⟨p, v, c, n⟩ ∈ L := by
  unfold lookE
  constructor
  · intro h1
    obtain ⟨x, hx, rfl⟩ := Option.map_eq_some_iff.1 h1
    have h2 := List.mem_of_find?_eq_some hx
    have h3 := List.find?_some hx
    simp only [keyIs, decide_eq_true_eq] at h3
    obtain ⟨rfl, rfl, rfl⟩ := h3
    exact h2
  · intro h1
    cases hf : L.find? (fun x => keyIs x p v c) with
    | none => exact absurd (List.find?_eq_none.1 hf _ h1) (by simp [keyIs])
    | some y =>
      have h2 := List.mem_of_find?_eq_some hf
      have h3 := List.find?_some hf
      simp only [keyIs, decide_eq_true_eq] at h3
      have := h.inj h2 h1 h3
      rw [this]; rfl
theorem lookE_none {L : List Ent} {p v c : Int} : lookE L p v c = none ↔ ∀ y ∈ L, ¬ (y.p = p ∧ y.v = v ∧ y.c = c) := by
  unfold lookE
  rw [Option.map_eq_none_iff, List.find?_eq_none]
  simp [keyIs]
/-! ### A table holds a list -/
structure TabI (s : Nat → Slot) (len room : Int) (L : List Ent) : Prop where
  inv : Inv s len room
  srt : SrtE L
  mem : ∀ x : Ent, x ∈ L ↔ HasS s x.slot
theorem slot_ent {x : Slot} (h : x.used = true) : x.ent.slot = x := by cases x; simp_all [Slot.ent, Ent.slot]
theorem TabI.new (m : Int) : TabI noSlots 0 (imax 0 (imin m 64)) [] := ⟨Inv.new m, List.Pairwise.nil, fun x => ⟨fun h => by simp at h, fun ⟨_, i, _, h2⟩ => by have := congrArg Slot.used h2; cases this⟩⟩
theorem TabI.len {s : Nat → Slot} {len room : Int} {L : List Ent} (h : TabI s len room L) : len = (L.length : Nat) := by
  have hc : cntU s = L.length := by
    have hn : ((usedL s).map fun i => (s i).ent).Nodup := by
      rw [List.nodup_iff_pairwise_ne, List.pairwise_map]
      refine List.Pairwise.imp_of_mem ?_ (List.nodup_iff_pairwise_ne.1 (usedL_nodup s))
      intro i j hi hj hne heq
      obtain ⟨i1, i2⟩ := mem_usedL.1 hi
      obtain ⟨j1, j2⟩ := mem_usedL.1 hj
      exact hne (h.inv.apart i j i1 j1 i2 j2 (congrArg Ent.p heq) (congrArg Ent.v heq) (congrArg Ent.c heq))
    have h1 := length_le_of_nodup hn (m := L) fun x hx => by
      obtain ⟨i, hi, rfl⟩ := List.mem_map.1 hx
      obtain ⟨i1, i2⟩ := mem_usedL.1 hi
      refine (h.mem _).2 ?_
      rw [slot_ent i2]
      exact ⟨i2, i, i1, rfl⟩
    have h2 := length_le_of_nodup h.srt.nodup (m := (usedL s).map fun i => (s i).ent) fun x hx => by
      obtain ⟨hu, i, hi, hix⟩ := (h.mem x).1 hx
      exact List.mem_map.2 ⟨i, mem_usedL.2 ⟨hi, by rw [hix]; rfl⟩, by rw [hix]; rfl⟩
    rw [List.length_map] at h1 h2
    unfold cntU; omega
  rw [h.inv.cnt, hc]
theorem TabI.val {s : Nat → Slot} {len room : Int} {L : List Ent} (h : TabI s len room L) (p v c : Int) : val s p v c = lookE L p v c := by
  apply Option.ext
  intro n
  rw [val_some h.inv, lookE_some h.srt, h.mem]
  constructor
  · rintro ⟨i, hi, hu, rfl, rfl, rfl, rfl⟩
    refine ⟨rfl, i, hi, ?_⟩
    show s i = (s i).ent.slot
    rw [slot_ent hu]
  · rintro ⟨_, i, hi, hix⟩
    exact ⟨i, hi, by rw [hix]; exact ⟨rfl, rfl, rfl, rfl, rfl⟩⟩
theorem TabI.right {s : Nat → Slot} {len room : Int} {L : List Ent} (h : TabI s len room L) {x : Ent} (hx : x ∈ L) : rightB x.p x.v x.c = true := by
  obtain ⟨hu, i, hi, hix⟩ := (h.mem x).1 hx
  have := h.inv.right i hi (by rw [hix]; rfl)
  rwa [hix] at this
def putK (L : List Ent) (room p v c : Int) : Int := if rightB p v c = true then (if (lookE L p v c).isSome = true then 7 else if (L.length : Int) ≥ room then 9 else 0) else 1
def putE (L : List Ent) (room p v c n : Int) : List Ent := if putK L room p v c = 0 then insE L ⟨p, v, c, n⟩ else L
theorem TabI.putC {s : Nat → Slot} {len room : Int} {L : List Ent} (h : TabI s len room L) (p v c : Int) : putC s len room p v c = putK L room p v c := by
  have h1 : (s (findN s p v c)).used = (lookE L p v c).isSome := by rw [← h.val p v c, ← val_there]; rfl
  unfold Go.Proofs.Ythchmlidobgkoaa.putC putK
  rw [h1, h.len]
theorem putK_ok {L : List Ent} {room p v c : Int} : putK L room p v c = 0 ↔ rightB p v c = true ∧ lookE L p v c = none ∧ (L.length : Int) < room := by
  unfold putK
  constructor
  · intro h
    by_cases h1 : rightB p v c = true
    · rw [if_pos h1] at h
      by_cases h2 : (lookE L p v c).isSome = true
      · rw [if_pos h2] at h; omega
      · rw [if_neg h2] at h
        by_cases h3 : (L.length : Int) ≥ room
        · rw [if_pos h3] at h; omega
        · exact ⟨h1, by simpa using h2, by omega⟩
    · rw [if_neg h1] at h; omega
  · rintro ⟨h1, h2, h3⟩
    rw [if_pos h1, if_neg (by rw [h2]; simp), if_neg (by omega)]
theorem TabI.put {s : Nat → Slot} {len room : Int} {L : List Ent} (h : TabI s len room L) (p v c n : Int) : TabI (putS s len room p v c n) (putL s len room p v c) room (putE L room p v c n) := by
  have hi := h.inv.put p v c n
  by_cases h0 : Go.Proofs.Ythchmlidobgkoaa.putC s len room p v c = 0
  · have hk : putK L room p v c = 0 := by rw [← h.putC]; exact h0
    obtain ⟨k1, k2, k3⟩ := putK_ok.1 hk
    have e : putE L room p v c n = insE L ⟨p, v, c, n⟩ := by unfold putE; rw [if_pos hk]
    rw [e]
    refine ⟨hi, insE_srt h.srt (lookE_none.1 k2), fun x => ?_⟩
    have hv : ∀ m, Go.Proofs.Ythchmlidobgkoaa.val (putS s len room p v c n) x.p x.v x.c = some m ↔ _ := fun m => val_some hi
    rw [mem_insE]
    have hval := val_put (n := n) h.inv h0 x.p x.v x.c
    have hx : HasS (putS s len room p v c n) x.slot ↔ Go.Proofs.Ythchmlidobgkoaa.val (putS s len room p v c n) x.p x.v x.c = some x.n := by
      rw [val_some hi]
      constructor
      · rintro ⟨_, i, hi, hix⟩
        exact ⟨i, hi, by rw [hix]; exact ⟨rfl, rfl, rfl, rfl, rfl⟩⟩
      · rintro ⟨i, hi, hu, h1, h2, h3, h4⟩
        refine ⟨rfl, i, hi, ?_⟩
        have := slot_ent hu
        rw [← this]
        simp [Slot.ent, Ent.slot, h1, h2, h3, h4]
    rw [hx, hval]
    by_cases hk' : x.p = p ∧ x.v = v ∧ x.c = c
    · rw [if_pos hk']
      constructor
      · rintro (rfl | hL)
        · rfl
        · exact absurd hk' (lookE_none.1 k2 x hL)
      · intro hn
        left
        obtain ⟨a1, a2, a3⟩ := hk'
        simp only [Option.some.injEq] at hn
        cases x; simp_all
    · rw [if_neg hk', h.val, lookE_some h.srt]
      constructor
      · rintro (rfl | hL)
        · exact absurd ⟨rfl, rfl, rfl⟩ hk'
        · exact hL
      · exact .inr
  · have hk : ¬ putK L room p v c = 0 := by rw [← h.putC]; exact h0
    rw [(put_not (n := n) h0).1, (put_not (n := n) h0).2] at hi ⊢
    unfold putE
    rw [if_neg hk]
    exact ⟨hi, h.srt, h.mem⟩
/-- What is taken out. -/
theorem TabI.drop {s s' : Nat → Slot} {len room : Int} {L : List Ent} (h : TabI s len room L) {p v c n : Int} (hl : lookE L p v c = some n) {e k : Nat} (he : e < 128) (hd : DropI s' e k) (hk : k < 128 ∧ (s' (atE e k)).used = false ∨ k = 128)
    (hm : ∀ x, HasS s' x ↔ HasS (setS s (findN s p v c) noSlot) x) : TabI s' (len - 1) room (delE L p v c) := by
  have hv : Go.Proofs.Ythchmlidobgkoaa.val s p v c = some n := by rw [h.val]; exact hl
  have ht : there s p v c = true := by rw [val_there, hv]; rfl
  obtain ⟨t1, t2, t3⟩ := there_key h.inv ht
  have hu : (s (findN s p v c)).used = true := ht
  have hi := findN_lt s p v c
  have own := hd.done he hk
  have hmem : ∀ x : Ent, x ∈ delE L p v c ↔ HasS s' x.slot := by
    intro x
    rw [mem_delE, hm, h.mem]
    constructor
    · rintro ⟨⟨hu', i, hi', hix⟩, hne⟩
      refine ⟨hu', i, hi', ?_⟩
      have : i ≠ findN s p v c := by
        rintro rfl
        rw [hix] at t1 t2 t3
        exact hne ⟨t1, t2, t3⟩
      rw [setS_ne this]; exact hix
    · rintro ⟨hu', i, hi', hix⟩
      have hne : i ≠ findN s p v c := by
        rintro rfl
        rw [setS_eq] at hix
        have := congrArg Slot.used hix; cases this
      rw [setS_ne hne] at hix
      refine ⟨⟨hu', i, hi', hix⟩, fun hk' => hne ?_⟩
      have hiu : (s i).used = true := by rw [hix]; rfl
      exact h.inv.apart i _ hi' hi hiu hu (by rw [hix, t1]; exact hk'.1) (by rw [hix, t2]; exact hk'.2.1) (by rw [hix, t3]; exact hk'.2.2)
  have hright : ∀ i, i < 128 → (s' i).used = true → rightB (s' i).p (s' i).v (s' i).c = true := by
    intro i hi' hiu
    have hx : (s' i).ent ∈ delE L p v c := (hmem _).2 (by rw [slot_ent hiu]; exact ⟨hiu, i, hi', rfl⟩)
    exact h.right (mem_delE.1 hx).1
  have hlen : (delE L p v c).length + 1 = L.length := by
    have hx := (lookE_some h.srt).1 hl
    have h1 := length_le_of_nodup (l := (⟨p, v, c, n⟩ : Ent) :: delE L p v c) (m := L) (List.nodup_cons.2 ⟨fun hx => (mem_delE.1 hx).2 ⟨rfl, rfl, rfl⟩, (delE_srt h.srt p v c).nodup⟩) fun y hy => by
      rcases List.mem_cons.1 hy with rfl | hy
      · exact hx
      · exact (mem_delE.1 hy).1
    have h2 := length_le_of_nodup (l := L) (m := (⟨p, v, c, n⟩ : Ent) :: delE L p v c) h.srt.nodup fun y hy => by
      by_cases hk' : y.p = p ∧ y.v = v ∧ y.c = c
      · rw [h.srt.inj hy hx hk']; simp
      · exact List.mem_cons_of_mem _ (mem_delE.2 ⟨hy, hk'⟩)
    simp only [List.length_cons] at h1 h2
    omega
  have hc : cntU s' = (delE L p v c).length := by
    have hn : ((usedL s').map fun i => (s' i).ent).Nodup := by
      rw [List.nodup_iff_pairwise_ne, List.pairwise_map]
      refine List.Pairwise.imp_of_mem ?_ (List.nodup_iff_pairwise_ne.1 (usedL_nodup s'))
      intro i j hi hj hne heq
      obtain ⟨i1, i2⟩ := mem_usedL.1 hi
      obtain ⟨j1, j2⟩ := mem_usedL.1 hj
      exact hne (hd.apart i j i1 j1 i2 j2 (congrArg Ent.p heq) (congrArg Ent.v heq) (congrArg Ent.c heq))
    have h1 := length_le_of_nodup hn (m := delE L p v c) fun x hx => by
      obtain ⟨i, hi, rfl⟩ := List.mem_map.1 hx
      obtain ⟨i1, i2⟩ := mem_usedL.1 hi
      refine (hmem _).2 ?_
      rw [slot_ent i2]
      exact ⟨i2, i, i1, rfl⟩
    have h2 := length_le_of_nodup (delE_srt h.srt p v c).nodup (m := (usedL s').map fun i => (s' i).ent) fun x hx => by
      obtain ⟨hu, i, hi, hix⟩ := (hmem x).1 hx
      exact List.mem_map.2 ⟨i, mem_usedL.2 ⟨hi, by rw [hix]; rfl⟩, by rw [hix]; rfl⟩
    rw [List.length_map] at h1 h2
    unfold cntU; omega
  have hlL := h.len
  have hf := h.inv.fits
  exact ⟨⟨own, hd.zero, hright, by rw [hc]; omega, by omega, h.inv.cap⟩, delE_srt h.srt p v c, hmem⟩
/-- The loop's start. -/
theorem TabI.dropI {s : Nat → Slot} {len room : Int} {L : List Ent} (h : TabI s len room L) {e i : Nat} (he : e < 128) (hu : (s e).used = false) (hi : i < 128) (hiu : (s i).used = true) :
    DropI (setS s i noSlot) e (offE e i + 1) ∧ offE e i < 128 ∧ (i + 1) % 128 = atE e (offE e i + 1) := by
  have hl := h.inv.lin he hu
  have hk := offE_lt e i
  have ei := atE_off he hi
  have hl2 : LinI s e (fun j x => offE e i ≤ j ∧ x < offE e i) := ⟨hl.free, fun k hk hku => ⟨(hl.way k hk hku).1, fun x h1 h2 => .inl (((hl.way k hk hku).2 x h1 h2).resolve_right id)⟩, hl.pos⟩
  have h3 := hl2.clear he hk
  rw [ei] at h3
  exact ⟨⟨h3, h.inv.apart.clear i, zero_clear h.inv.zero i⟩, hk, by rw [← atE_succ he, ei]⟩
end Go.Proofs.Ythchmlidobgkoaa
end

section
/- Package conns: the table's functions, said of a list of entries. -/
set_option linter.unusedVariables false
set_option linter.unusedSimpArgs false
namespace Go.Proofs.Ythchmlidobgkoaa
open Go.Vc Go.RowKit
theorem get_tabL {b : Nat} {s : Nat → Slot} {len room : Int} {L : List Ent} (p v c : Int) {w : World} (ht : Own w b (encT s len room) 77) (hT : TabI s len room L) :
    CV Try.prog 36 #[.pointer (some ⟨b, 0, none⟩), .agg #[.int .i64 p, .int .i64 v, .int .i64 c]] w fun x w1 => x = .tuple #[.int .i64 ((lookE L p v c).getD 0), .bool (lookE L p v c).isSome] ∧ Step No w w1 := by
  have := get_tab p v c ht hT.inv
  rwa [hT.val] at this
theorem find_at {b : Nat} {s : Nat → Slot} {len room : Int} (p v c : Int) {w : World} (ht : Own w b (encT s len room) 77) {e : Nat} (he : e < 128) (hu : (s e).used = false) :
    CV Try.prog 47 #[.pointer (some ⟨b, 0, none⟩), .agg #[.int .i64 p, .int .i64 v, .int .i64 c]] w fun x w1 => x = .int .i64 ((findN s p v c : Nat) : Int) ∧ Step No w w1 := find_any b s len room p v c w ht e he hu
theorem atE_128 {e : Nat} (he : e < 128) : atE e 128 = e := by unfold atE; omega
theorem DropI.lt {s : Nat → Slot} {e k : Nat} (h : DropI s e k) (he : e < 128) (hk : k ≤ 128) (hu : (s (atE e k)).used = true) : k < 128 := by
  rcases Nat.lt_or_eq_of_le hk with h1 | rfl
  · exact h1
  · rw [atE_128 he, h.lin.free] at hu; cases hu
theorem delE_none {L : List Ent} {p v c : Int} (h : (lookE L p v c).isSome = false) : delE L p v c = L := by
  have h2 : lookE L p v c = none := by simpa using h
  unfold delE
  refine List.filter_eq_self.2 fun x hx => ?_
  have := lookE_none.1 h2 x hx
  unfold keyIs
  rw [decide_eq_false this]; rfl
end Go.Proofs.Ythchmlidobgkoaa
end

section
/- The kit's contract for slices.SortFunc, laid at this program's slots (printed by the kit's own tool). -/
namespace Go.Proofs
open Go.Shelf
def Try.sortSlot_ren : Go.Shelf.Ren := ⟨fun | 6 => 43 | 15 => 53 | 14 => 52 | 28 => 69 | 29 => 70 | 20 => 61 | 21 => 62 | 22 => 63 | 23 => 64 | 24 => 65 | 25 => 66 | 26 => 67 | 27 => 68 | 46 => 73 | 47 => 74 | 48 => 75 | 49 => 76 | 50 => 77 | 57 => 78 | n => n, fun | 22 => 83 | 24 => 74 | 25 => 86 | 3 => 3 | 39 => 106 | 0 => 0 | 53 => 122 | 55 => 124 | 4 => 4 | 46 => 116 | 45 => 115 | 50 => 58 | 5 => 5 | 9 => 9 | 66 => 128 | 70 => 132 | 76 => 134 | 77 => 135 | n => n, fun | n => n⟩
theorem Try.sortSlot : Go.Proofs.SlLaysF0.n6 Try.prog Try.sortSlot_ren := {
  mixed := by kernel_rfl
  f6 := ⟨Try.f43.name, by decide, Try.func43.trans (congrArg some (by kernel_rfl))⟩
  f14 := ⟨Try.f52.name, by decide, Try.func52.trans (congrArg some (by kernel_rfl))⟩
  f15 := Try.func53.trans (congrArg some (by kernel_rfl))
  f20 := ⟨Try.f61.name, by decide, Try.func61.trans (congrArg some (by kernel_rfl))⟩
  f21 := ⟨Try.f62.name, by decide, Try.func62.trans (congrArg some (by kernel_rfl))⟩
  f22 := ⟨Try.f63.name, by decide, Try.func63.trans (congrArg some (by kernel_rfl))⟩
  f23 := ⟨Try.f64.name, by decide, Try.func64.trans (congrArg some (by kernel_rfl))⟩
  f24 := ⟨Try.f65.name, by decide, Try.func65.trans (congrArg some (by kernel_rfl))⟩
  f25 := ⟨Try.f66.name, by decide, Try.func66.trans (congrArg some (by kernel_rfl))⟩
  f26 := ⟨Try.f67.name, by decide, Try.func67.trans (congrArg some (by kernel_rfl))⟩
  f27 := ⟨Try.f68.name, by decide, Try.func68.trans (congrArg some (by kernel_rfl))⟩
  f28 := Try.func69.trans (congrArg some (by kernel_rfl))
  f29 := Try.func70.trans (congrArg some (by kernel_rfl))
  f46 := ⟨Try.f73.name, by decide, Try.func73.trans (congrArg some (by kernel_rfl))⟩
  f47 := Try.func74.trans (congrArg some (by kernel_rfl))
  f48 := Try.func75.trans (congrArg some (by kernel_rfl))
  f49 := ⟨Try.f76.name, by decide, Try.func76.trans (congrArg some (by kernel_rfl))⟩
  f50 := ⟨Try.f77.name, by decide, Try.func77.trans (congrArg some (by kernel_rfl))⟩
  f57 := ⟨Try.f78.name, by decide, Try.func78.trans (congrArg some (by kernel_rfl))⟩
  t0 := Try.underlying0
  a0 := Try.isAgg0
  z0 := Try.sizeOf0
  v0 := Try.zeroValue0
  t3 := Try.underlying3
  a3 := Try.isAgg3
  z3 := Try.sizeOf3
  v3 := Try.zeroValue3
  t4 := Try.underlying4
  a4 := Try.isAgg4
  z4 := Try.sizeOf4
  v4 := Try.zeroValue4
  t5 := Try.underlying5
  a5 := Try.isAgg5
  z5 := Try.sizeOf5
  v5 := Try.zeroValue5
  t9 := Try.underlying9
  a9 := Try.isAgg9
  z9 := Try.sizeOf9
  v9 := Try.zeroValue9
  t22 := Try.underlying83
  a22 := Try.isAgg83
  z22 := Try.sizeOf83
  v22 := Try.zeroValue83
  t25 := Try.underlying86
  a25 := Try.isAgg86
  z25 := Try.sizeOf86
  v25 := Try.zeroValue86
  t39 := Try.underlying106
  a39 := Try.isAgg106
  z39 := Try.sizeOf106
  v39 := Try.zeroValue106
  t45 := Try.underlying115
  a45 := Try.isAgg115
  z45 := Try.sizeOf115
  v45 := Try.zeroValue115
  t46 := Try.underlying116
  a46 := Try.isAgg116
  z46 := Try.sizeOf116
  v46 := Try.zeroValue116
  t50 := Try.underlying58
  a50 := Try.isAgg58
  z50 := Try.sizeOf58
  v50 := Try.zeroValue58
  t53 := Try.underlying122
  a53 := Try.isAgg122
  z53 := Try.sizeOf122
  v53 := Try.zeroValue122
  t55 := Try.underlying124
  a55 := Try.isAgg124
  z55 := Try.sizeOf124
  v55 := Try.zeroValue124
  t66 := Try.underlying128
  a66 := Try.isAgg128
  z66 := Try.sizeOf128
  v66 := Try.zeroValue128
  t70 := Try.underlying132
  a70 := Try.isAgg132
  z70 := Try.sizeOf132
  v70 := Try.zeroValue132
  t76 := Try.underlying134
  a76 := Try.isAgg134
  z76 := Try.sizeOf134
  v76 := Try.zeroValue134
  t77 := Try.underlying135
  a77 := Try.isAgg135
  z77 := Try.sizeOf135
  v77 := Try.zeroValue135 }
end Go.Proofs
end

section
/- The calculus' seventh part: slices: built, cut, copied, appended to; bytes as a string; externs; results in memory. -/
set_option linter.unusedVariables false
set_option linter.unusedSimpArgs false
namespace Go.Vc
open Go.RowKit

theorem oneC_oneCell {v : Value} (h : oneC v = true) : v.oneCell' = true := by cases v <;> first | rfl | cases h

section
variable {r : Option Nat} {n : Nat} {ds : List Deferred} {P : Program} {ops : Array Oper} {Q : Exit → Act → World → Prop} {l : List (Nat × Value)} {w : World} {i : Nat} {K : List (Nat × Value) → World → Prop}

/-! ### 1. A slice that is built -/
def bsZero (sz : Nat) (len : Nat) (inf : TypeInfo) : Option (Array Value) := bif Nat.beq (len * sz) 0 then some #[] else inf.zero.map (·.cells)
def bsOp (P : Program) (n : Nat) (ops : Array Oper) (l : List (Nat × Value)) (i : Nat) : Option (Nat × TypeId × Array Value × Nat) :=
  match theOp ops l i with
  | some { dst := some d, op := .buildSlice t len parts, .. } =>
    match P.underlying t with
    | some (.slice e) => match P.info? e with
      | some inf => match bsZero inf.size len inf with
        | some z => match Instr.fill (fun i => some (i * inf.size, inf.size)) ((Array.range (len * inf.size)).map (z[· % z.size]!)) (parts.map fun (i, x) => (i, evL l x)).toList with
          | some cells => bif Nat.blt d n && Nat.ble (len * inf.size) 16777216 then some (d, e, cells, len) else none
          | none => none
        | none => none
      | none => none
    | _ => none
  | _ => none
theorem V1_bs {d : Nat} {e : TypeId} {c : Array Value} {len : Nat} (h : bsOp P n ops l i = some (d, e, c, len)) (next : ∀ b w1, New w w1 b (.cells c e) → K ((d, .slice (some ⟨b, 0, none⟩) len len) :: l) w1) : V1 r n ds P ops Q i l w K := by
  unfold bsOp at h
  split at h
  · rename_i _ d' t len' parts ty pos aft gd ho
    split at h
    · rename_i e' hu
      split at h
      · rename_i inf hinf
        split at h
        · rename_i z hz
          split at h
          · rename_i cells hfill
            cases hb : Nat.blt d' n && Nat.ble (len' * inf.size) 16777216 with
            | false => rw [hb] at h; cases h
            | true =>
              rw [hb] at h
              simp only [cond_true, Option.some.injEq, Prod.mk.injEq] at h
              obtain ⟨rfl, rfl, rfl, rfl⟩ := h
              simp only [Bool.and_eq_true] at hb
              have hle := Nat.le_of_ble_eq_true hb.2
              refine V1_value ho rfl hb.1 ?_ (next w.heap.size _ ⟨rfl, rfl⟩)
              have hfill' : Instr.fill (fun i => some (i * inf.size, inf.size)) (Array.map (fun x => z[x % z.size]!) (Array.range (len' * inf.size))) (Array.map (fun x => (x.1, evL l x.2)) parts).toList = some cells := hfill
              have hnot : ¬ (len' * inf.size > 2 ^ 24) := by omega
              by_cases h0 : len' * inf.size = 0
              · have hz0 : z = #[] := by
                  unfold bsZero at hz
                  rw [h0, show Nat.beq 0 0 = true from rfl] at hz
                  simpa using hz.symm
                subst hz0
                simp only [execOp, Instr.buildSlice, Sem.run_bind, run_underlying' hu, Result.andThen_ok, run_sizeOf hinf]
                rw [if_neg hnot, if_pos h0]
                simp only [Sem.run_bind, Sem.run_pure, Result.andThen_ok, hfill', newRow, newObj, Sem.run]
                rfl
              · have hbq : Nat.beq (len' * inf.size) 0 = false := by cases hq : Nat.beq (len' * inf.size) 0; rfl; exact absurd (Nat.eq_of_beq_eq_true hq) h0
                unfold bsZero at hz
                rw [hbq] at hz
                simp only [cond_false] at hz
                obtain ⟨zz, hzz, rfl⟩ := Option.map_eq_some_iff.1 hz
                have hzv : (zeroValue e').run P w = .ok zz w := by simp [zeroValue, typeInfo, program, Sem.run, hinf, hzz]
                simp only [execOp, Instr.buildSlice, Sem.run_bind, run_underlying' hu, Result.andThen_ok, run_sizeOf hinf]
                rw [if_neg hnot, if_neg h0]
                simp only [Sem.run_bind, Sem.run_pure, Result.andThen_ok, hzv, hfill', newRow, newObj, Sem.run]
                rfl
          · cases h
        · cases h
      · cases h
    · cases h
  · cases h
theorem VL_bs {d : Nat} {e : TypeId} {c : Array Value} {len : Nat} (h : bsOp P n ops l i = some (d, e, c, len)) (hi : Nat.blt i ops.size = true) (next : ∀ b w1, New w w1 b (.cells c e) → VL r n ds P ops Q (i + 1) ((d, .slice (some ⟨b, 0, none⟩) len len) :: l) w1) : VL r n ds P ops Q i l w :=
  VL_of_V1 hi (V1_bs h next)

/-! ### 2. Slice expressions -/
def optInt (l : List (Nat × Value)) : Option Operand → Option (Option Int)
  | none => some none
  | some x => match evL l x with
    | .int _ k => some (some k)
    | _ => none
theorem run_sliceBound {k : IntKind} {m : Int} {y : Nat} {code : BoundsCode} (N : Nat) (hm : m = N) (h : N ≤ y) : (Instr.sliceBound (.int k m) y code).run P w = .ok N w := by
  subst hm
  unfold Instr.sliceBound
  simp only [asIntOf, Sem.run_bind, Sem.run_pure, Result.andThen_ok]
  rw [if_pos ⟨by omega, by omega⟩]
  rfl
theorem optInt_spec {l : List (Nat × Value)} {x : Option Operand} {m : Option Int} (h : optInt l x = some m) : (x = none ∧ m = none) ∨ ∃ k i y, x.map (evL l) = some (.int k i) ∧ x = some y ∧ m = some i := by
  cases x with
  | none => simp only [optInt, Option.some.injEq] at h; exact .inl ⟨rfl, h.symm⟩
  | some y =>
    simp only [optInt] at h
    split at h
    · rename_i k i hx
      cases h
      exact .inr ⟨k, i, y, by simp [hx], rfl, rfl⟩
    · cases h
theorem run_sliceBounds {isSlice : Bool} {len cap : Nat} {l : List (Nat × Value)} {lo hi mx : Option Operand} {loi hii mxi : Option Int} (hlo : optInt l lo = some loi) (hhi : optInt l hi = some hii) (hmx : optInt l mx = some mxi) (hno : mxi ≠ none → hii ≠ none) (L H M : Nat)
    (hl : loi.getD 0 = L) (hh : hii.getD len = H) (hm : mxi.getD cap = M) (h1 : L ≤ H) (h2 : H ≤ M) (h3 : M ≤ cap) :
    (Instr.sliceBounds isSlice len cap (lo.map (evL l)) (hi.map (evL l)) (mx.map (evL l))).run P w = .ok (L, H, M) w := by
  have hb : ∀ (k : IntKind) (m : Int) (y N : Nat) (code : BoundsCode), m = N → N ≤ y → (Instr.sliceBound (.int k m) y code).run P w = .ok N w := fun k m y N code h1 h2 => run_sliceBound N h1 h2
  rcases optInt_spec hmx with ⟨rfl, rfl⟩ | ⟨km, im, ym, hM, hM', rfl⟩ <;> rcases optInt_spec hhi with ⟨rfl, rfl⟩ | ⟨kh, ih, yh, hH, hH', rfl⟩ <;> rcases optInt_spec hlo with ⟨rfl, rfl⟩ | ⟨kl, il, yl, hL, hL', rfl⟩
  · simp only [Option.getD_none, Option.getD_some] at hl hh hm
    obtain rfl : M = cap := by omega
    obtain rfl : H = len := by omega
    obtain rfl : L = 0 := by omega
    unfold Instr.sliceBounds
    simp only [Option.map_none, Sem.run_bind, Sem.run_pure, Result.andThen_ok]
  · simp only [Option.getD_none, Option.getD_some] at hl hh hm
    obtain rfl : M = cap := by omega
    obtain rfl : H = len := by omega
    unfold Instr.sliceBounds
    rw [hL]
    simp only [Option.map_none, Sem.run_bind, Sem.run_pure, Result.andThen_ok, hb _ _ _ _ _ hl h1]
  · simp only [Option.getD_none, Option.getD_some] at hl hh hm
    obtain rfl : M = cap := by omega
    obtain rfl : L = 0 := by omega
    unfold Instr.sliceBounds
    rw [hH]
    simp only [Option.map_none, Sem.run_bind, Sem.run_pure, Result.andThen_ok, hb _ _ _ _ _ hh h2]
  · simp only [Option.getD_none, Option.getD_some] at hl hh hm
    obtain rfl : M = cap := by omega
    unfold Instr.sliceBounds
    rw [hH]
    rw [hL]
    simp only [Option.map_none, Sem.run_bind, Sem.run_pure, Result.andThen_ok, hb _ _ _ _ _ hh h2, hb _ _ _ _ _ hl h1]
  · exact absurd rfl (hno (fun e => by cases e))
  · exact absurd rfl (hno (fun e => by cases e))
  · simp only [Option.getD_none, Option.getD_some] at hl hh hm
    obtain rfl : L = 0 := by omega
    unfold Instr.sliceBounds
    rw [hM]
    rw [hH]
    simp only [Option.map_none, Sem.run_bind, Sem.run_pure, Result.andThen_ok, hb _ _ _ _ _ hm h3, hb _ _ _ _ _ hh h2]
  · simp only [Option.getD_none, Option.getD_some] at hl hh hm
    unfold Instr.sliceBounds
    rw [hM]
    rw [hH]
    rw [hL]
    simp only [Option.map_none, Sem.run_bind, Sem.run_pure, Result.andThen_ok, hb _ _ _ _ _ hm h3, hb _ _ _ _ _ hh h2, hb _ _ _ _ _ hl h1]
/-! ### 3. copy -/
/-! ### 4. Bytes as a string -/
/-! ### 5. A function without a body -/
/-! ### 6. Results in memory -/
/-! ### 7. A loop round by round -/
variable {c : Code}
def LoopIn (r : Option Nat) (P : Program) (Q : Exit → Act → World → Prop) (c : Code) (a : Act) (w : World) : Prop :=
  ∀ (b : Frame) (k : List Item) (cs : List Frame), b.roundOf = (Fx r).round → (Fx r).fn b.fn → (Fx r).room (cs.length + 1 + 0) →
    ∃ e a' w', Q e a' w' ∧ ArrivesIn (Machine.fenced P (Fx r)) P (lone (b.atR a (.code c :: .inLoop c :: k)) cs w) b k cs e a' w'
def VCL (r : Option Nat) (n : Nat) (ds : List Deferred) (P : Program) (Q : Exit → Act → World → Prop) (c : Code) (l : List (Nat × Value)) (w : World) : Prop := ∀ a, Has n ds l a → LoopIn r P Q c a w
theorem VC_rounds (h : VCL r n ds P Q c l w) : VC r n ds P Q (.loop c) l w := by
  intro a ha b k cs hro hb hr
  obtain ⟨e, a', w', hq, harr⟩ := h a ha b k cs hro hb hr
  exact ⟨e, a', w', hq, .of_steps (.one (fenced_calm hb hr rfl) stepR_loop) harr⟩
theorem VCL_round (h : VC r n ds P (Exit.then (LoopIn r P Q c) Q) c l w) : VCL r n ds P Q c l w := by
  intro a ha b k cs hro hb hr
  obtain ⟨e, a₁, w₁, hq, harr⟩ := h a ha b (.inLoop c :: k) cs hro hb hr
  cases e with
  | normal =>
    obtain ⟨e₂, a₂, w₂, hq₂, harr₂⟩ := hq b k cs hro hb hr
    exact ⟨e₂, a₂, w₂, hq₂, .of_steps (StepsIn.trans harr (.one (fenced_calm hb hr rfl) stepR_inLoop)) harr₂⟩
  | exit id => exact ⟨_, a₁, w₁, hq, .pass (x := .inLoop c) rfl (fun _ _ => .inl (by simp)) harr⟩
  | goto l => exact ⟨_, a₁, w₁, hq, .pass (x := .inLoop c) rfl (fun _ _ => .inl (by simp)) harr⟩
  | ret => exact ⟨_, a₁, w₁, hq, .pass (x := .inLoop c) rfl (fun _ _ => .inl (by simp)) harr⟩
  | panic ch => exact ⟨_, a₁, w₁, hq, .pass (x := .inLoop c) rfl (fun _ _ => .inl (by simp)) harr⟩
  | outgrown => exact ⟨_, a₁, w₁, hq, .pass (x := .inLoop c) rfl (fun _ _ => .inl (by simp)) harr⟩
theorem VQ_round (h : VCL r n ds P Q c l w) : VQ n ds (Exit.then (LoopIn r P Q c) Q) .normal l w := h

/-! ### 8. A drawn region whose values are settled, in which some operations turn the world -/
/-- A block whose cells are c0, and are c1 once it was stored to. -/
def ROwn (b : Nat) (T : TypeId) (c0 c1 : Array Value) (x y : World) : Prop := (Own x b c0 T ∨ Own x b c1 T → Own y b c0 T ∨ Own y b c1 T) ∧ (Own x b c1 T → Own y b c1 T) ∧ Step (Just b) x y
theorem ROwn.refl (b : Nat) (T : TypeId) (c0 c1 : Array Value) (x : World) : ROwn b T c0 c1 x x := ⟨id, id, Step.refl _ _⟩
theorem ROwn.trans {b : Nat} {T : TypeId} {c0 c1 : Array Value} {x y z : World} (h : ROwn b T c0 c1 x y) (h' : ROwn b T c0 c1 y z) : ROwn b T c0 c1 x z := ⟨h'.1 ∘ h.1, h'.2.1 ∘ h.2.1, h.2.2.trans h'.2.2⟩
theorem ROwn.no {b : Nat} {T : TypeId} {c0 c1 : Array Value} {x y : World} (h : Step No x y) : ROwn b T c0 c1 x y := ⟨fun h1 => h1.imp (fun h2 => h2.no h) (fun h2 => h2.no h), fun h2 => h2.no h, h.weak⟩
end
end Go.Vc
end

section
/- The calculus' twenty-first part: drawn regions whose values are settled, and what is drawn only grows: for calls into the kit's sort. -/
set_option linter.unusedVariables false
set_option linter.unusedSimpArgs false
namespace Go.Vc
open Go.RowKit
/-- Old blocks are as they were, and no fewer were drawn. -/
def GR (w w' : World) : Prop := Step No w w' ∧ w.drawn ≤ w'.drawn
theorem GR.refl (w : World) : GR w w := ⟨Step.refl _ _, Nat.le_refl _⟩
theorem GR.trans {w w' w'' : World} (h : GR w w') (k : GR w' w'') : GR w w'' := ⟨h.1.trans k.1, Nat.le_trans h.2 k.2⟩
theorem GR.drew (w : World) : GR w w.drew := ⟨drew_step w, Nat.le_succ _⟩
theorem New.drawn {w w' : World} {b : Nat} {o : Obj} (h : New w w' b o) : w'.drawn = w.drawn := by
  obtain ⟨_, rfl⟩ := h
  rfl
section
variable {r : Option Nat} {n : Nat} {ds : List Deferred} {P : Program} {ops : Array Oper} {Q : Exit → Act → World → Prop} {l : List (Nat × Value)} {w : World}
def DetD (r : Option Nat) (n : Nat) (ds : List Deferred) (P : Program) (ops : Array Oper) (Q : Exit → Act → World → Prop) (w : World) (l : List (Nat × Value)) (k : Nat) (v : Value) : Prop :=
  V1 r n ds P ops Q k l w fun l' w'' => ∃ d, dstOf ops k = some d ∧ look l' d = some v ∧ GR w w''

theorem VC_detD {id : Nat} (tbl : List (List Nat)) (m : Nat) (vs : List Value) (ks js : List Nat) (hm : P.follows .mixedOrders = true) (hchk : drawChk n ops tbl m = true) (hcov : allB m (fun k => nmem k ks || nmem k js) = true)
    (hpure : (ks.map fun k => pureAt P n ops (lkv ops tbl m l vs k) k) = ks.map fun k => some (vs.getD k undef))
    (hj : ∀ w1, GR w w1 → AncAll (fun k => DetD r n ds P ops Q w1 (lkv ops tbl m l vs k) k (vs.getD k undef)) js)
    (tail : ∀ w1, GR w w1 → VL r n ds P ops Q m (lmv ops m l vs) w1) : VC r n ds P Q (.region id ops true) l w := by
  have hc := drawChk_spec hchk
  have inSlots : ∀ k j d, j ∈ k :: tb tbl k → dstOf ops j = some d → ∀ ρ, rs ops tbl k ρ d = ρ d := by
    intro k j d hj hd ρ
    unfold rs slotsOf
    rw [show nmem d (List.filterMap (dstOf ops) (k :: tb tbl k)) = true from nmem_iff.2 (List.mem_filterMap.2 ⟨j, hj, hd⟩)]
    rfl
  refine VC_any tbl m hm hchk GR GR.refl (fun h k => GR.trans h k) (fun j ρ _ => ∀ d, dstOf ops j = some d → ρ d = vs.getD j undef) (fun j ρ x y h _ => h) (HAll_of fun k hk => ?_) ?_
  · intro ρ w' hs hanc
    have hw' : GR w w' := (GR.drew w).trans hs
    obtain ⟨d, hd, hdn, hclob⟩ := hc.dst k hk
    have hkn : k < ops.size := by have := hc.le; omega
    have hanc' := AncAll_spec hanc
    have hl : lk ops tbl m l k ρ = lkv ops tbl m l vs k := by
      unfold lk lkv
      congr 1
      rw [List.map_filterMap]
      apply filterMap_congr'
      intro j hj
      cases hdj : dstOf ops j with
      | none => rfl
      | some dj =>
        simp only [Option.map_some, Option.some.injEq, Prod.mk.injEq, true_and]
        have := hanc' j hj dj hdj
        rw [← this, inSlots j j dj (List.mem_cons_self ..) hdj]
    rw [hl]
    have hcv := allB_spec hcov k hk
    simp only [Bool.or_eq_true] at hcv
    have fin : ∀ l' w'', (∃ d, dstOf ops k = some d ∧ look l' d = some (vs.getD k undef) ∧ GR w' w'') → ∃ v d, dstOf ops k = some d ∧ look l' d = some v ∧ GR w' w'' ∧ ∀ d', dstOf ops k = some d' → rs ops tbl k (upd ρ d v) d' = vs.getD k undef := by
      rintro l' w'' ⟨d0, h1, h2, h3⟩
      refine ⟨_, d0, h1, h2, h3, fun d' hd' => ?_⟩
      rw [h1] at hd'
      simp only [Option.some.injEq] at hd'
      subst hd'
      rw [inSlots k k d0 (List.mem_cons_self ..) h1]
      simp [upd]
    rcases hcv with hk1 | hk2
    · have hp := map_eq_at hpure k (nmem_iff.1 hk1)
      obtain ⟨o, ho, hod⟩ : ∃ o, ops[k]? = some o ∧ o.dst = some d := Option.bind_eq_some_iff.1 hd
      unfold pureAt at hp
      rw [ho] at hp
      simp only [hod] at hp
      rw [show Nat.blt d n = true from Nat.ble_eq_true_of_le hdn] at hp
      simp only [cond_true] at hp
      exact V1_pure ho hp hod hdn (fin _ _ ⟨d, hd, look_head, GR.refl _⟩)
    · have h1 := AncAll_spec (hj w' hw') k (nmem_iff.1 hk2)
      intro a ha
      refine wpOpIn_mono ?_ (h1 a ha)
      rintro a' w'' ⟨l', hl', h2⟩
      exact ⟨l', hl', fin l' w'' h2⟩
  · intro ρ w' hs hall
    have hl : lm ops m l ρ = lmv ops m l vs := by
      unfold lm lmv
      congr 1
      rw [List.map_filterMap]
      apply filterMap_congr'
      intro j hj
      cases hdj : dstOf ops j with
      | none => rfl
      | some dj =>
        simp only [Option.map_some, Option.some.injEq, Prod.mk.injEq, true_and]
        have := HAll_spec hall j (List.mem_range.1 hj) dj hdj
        rw [← this, inSlots j j dj (List.mem_cons_self ..) hdj]
    rw [hl]
    exact tail w' ((GR.drew w).trans hs)

theorem DetD_load {d k : Nat} {t : TypeId} {a : Addr} {v : Value} (h : loadOp n ops l k = some (d, t, a)) (hd : dstOf ops k = some d) (hv : Loads P t w a v) : DetD r n ds P ops Q w l k v :=
  V1_load h hv ⟨d, hd, look_head, GR.refl _⟩
theorem DetD_call {d k f : Nat} {args : Array Value} {v : Value} (h : callOp ops l k = some (d, f, args)) (hd : dstOf ops k = some d) (hdn : Nat.blt d n = true) (hc : ∀ (args : Array Value) (w : World), (callFunc f args).run P w = .ok (.enter f args) w) (hcall : CV P f args w fun x w' => x = v ∧ GR w w') : DetD r n ds P ops Q w l k v := by
  refine V1_call h hdn hc hcall ?_
  rintro x w' ⟨rfl, hs⟩
  exact ⟨d, hd, look_head, hs⟩

end
end Go.Vc
end

section
/- How keys lie to each other; the sort. -/
set_option linter.unusedVariables false
set_option linter.unusedSimpArgs false
namespace Go.Proofs.Ythchmlidobgkoaa
open Go.Vc Go.RowKit

def cmpI (x y : Int) : Int := if x < y then -1 else if x > y then 1 else 0
def cmpK (p v c p' v' c' : Int) : Int := if cmpI p p' ≠ 0 then cmpI p p' else if cmpI v v' ≠ 0 then cmpI v v' else cmpI c c'
theorem cmpK_lt (p v c p' v' c' : Int) : decide (cmpK p v c p' v' c' < 0) = befK p v c p' v' c' := by
  rw [Bool.eq_iff_iff, decide_eq_true_eq, befK_iff]
  unfold cmpK cmpI
  repeat' split
  all_goals omega
theorem orI_0 {x y z : Int} (h : x ≠ 0) : x = (if x ≠ 0 then x else if y ≠ 0 then y else z) := by rw [if_pos h]
theorem orI_1 {x y z : Int} (h0 : ¬ x ≠ 0) (h : y ≠ 0) : y = (if x ≠ 0 then x else if y ≠ 0 then y else z) := by rw [if_neg h0, if_pos h]
theorem orI_2 {x y z : Int} (h0 : ¬ x ≠ 0) (h1 : ¬ y ≠ 0) : z = (if x ≠ 0 then x else if y ≠ 0 then y else z) := by rw [if_neg h0, if_neg h1]
theorem orI_3 {x y z : Int} (h0 : ¬ x ≠ 0) (h1 : ¬ y ≠ 0) (h2 : ¬ z ≠ 0) : 0 = (if x ≠ 0 then x else if y ≠ 0 then y else z) := by rw [if_neg h0, if_neg h1]; omega
theorem nan_any (x : Int) (w : World) :
  CV Try.prog 71 #[.int .i64 x] w (fun v w1 => v = .bool false ∧ Step No w w1 ∧ w.drawn ≤ w1.drawn) := by
 have hS : Step No w w := Step.refl _ _
 refine CV_enter Try.f71 _ 6 [(0, .int .i64 x)] Try.func71 rfl rfl (by kernel_rfl) rfl ?_
 refine VC_seq ?_
 refine VC_region ?_
 refine VL_pure 1 [0] [(0, .int .i64 x)] (by kernel_rfl) rfl ?_
 refine VL_end (by kernel_rfl) ?_
 refine VQ_next ?_
 refine VC_seq ?_
 refine VC_region ?_
 refine VL_pure 4 [2] [(2, .bool (x != x))] (by kernel_rfl) rfl ?_
 refine VL_end (by kernel_rfl) ?_
 refine VQ_next ?_
 refine VC_ret ?_
 refine VQ_ret1 (.bool (x != x)) (.inr rfl) rfl rfl ?_
 exact ⟨by simp, hS, Nat.le_refl _⟩

theorem cmp_any (x y : Int) (w : World) :
  CV Try.prog 55 #[.int .i64 x, .int .i64 y] w (fun v w1 => v = .int .i64 (cmpI x y) ∧ Step No w w1 ∧ w.drawn ≤ w1.drawn) := by
 have hS : Step No w w := Step.refl _ _
 refine CV_enter Try.f55 _ 20 [(0, .int .i64 x), (1, .int .i64 y)] Try.func55 rfl rfl (by kernel_rfl) rfl ?_
 refine VC_seq ?_
 refine VC_region ?_
 refine VL_pure 1 [0, 1] [(0, .int .i64 x), (1, .int .i64 y)] (by kernel_rfl) rfl ?_
 refine VL_end (by kernel_rfl) ?_
 refine VQ_next ?_
 refine VC_seq ?_
 refine VC_region ?_
 refine VL_pure 1 [0, 1, 7] [(0, .int .i64 x), (1, .int .i64 y), (7, .int .i64 x)] (by kernel_rfl) rfl ?_
 have hzs1 := hS.size
 refine VL_call (d := 8) (f := 71) (args := #[.int .i64 x]) (by kernel_rfl) (by kernel_rfl) (by kernel_rfl) Try.call71 (nan_any x _) ?_
 rintro _ w1 ⟨rfl, hc1, hdrhc1⟩
 replace hS := Step.trans hS hc1
 refine VL_pure 3 [0, 1, 5] [(0, .int .i64 x), (1, .int .i64 y), (5, .bool false)] (by kernel_rfl) rfl ?_
 refine VL_end (by kernel_rfl) ?_
 refine VQ_next ?_
 refine VC_seq ?_
 refine VC_region ?_
 refine VL_pure 1 [0, 1, 5, 9] [(0, .int .i64 x), (1, .int .i64 y), (5, .bool false), (9, .int .i64 y)] (by kernel_rfl) rfl ?_
 have hzs2 := hS.size
 refine VL_call (d := 10) (f := 71) (args := #[.int .i64 y]) (by kernel_rfl) (by kernel_rfl) (by kernel_rfl) Try.call71 (nan_any y _) ?_
 rintro _ w2 ⟨rfl, hc2, hdrhc2⟩
 replace hS := Step.trans hS hc2
 refine VL_pure 3 [0, 1, 5, 6] [(0, .int .i64 x), (1, .int .i64 y), (5, .bool false), (6, .bool false)] (by kernel_rfl) rfl ?_
 refine VL_end (by kernel_rfl) ?_
 refine VQ_next ?_
 refine VC_seq ?_
 refine VC_seq ?_
 refine VC_region ?_
 refine VL_pure 1 [0, 1, 6, 11] [(0, .int .i64 x), (1, .int .i64 y), (6, .bool false), (11, .bool false)] (by kernel_rfl) rfl ?_
 refine VL_end (by kernel_rfl) ?_
 refine VQ_next ?_
 refine VC_false (by kernel_rfl) ?_
 refine VC_skip ?_
 refine VQ_next ?_
 refine VC_seq ?_
 refine VC_seq ?_
 refine VC_region ?_
 refine VL_pure 1 [0, 1, 13] [(0, .int .i64 x), (1, .int .i64 y), (13, .bool false)] (by kernel_rfl) rfl ?_
 refine VL_end (by kernel_rfl) ?_
 refine VQ_next ?_
 refine VC_false (by kernel_rfl) ?_
 refine VC_skip ?_
 refine VQ_next ?_
 refine VC_seq ?_
 refine VC_seq ?_
 refine VC_region ?_
 refine VL_pure 3 [0, 1, 16] [(0, .int .i64 x), (1, .int .i64 y), (16, .bool (decide (x < y)))] (by kernel_rfl) rfl ?_
 refine VL_end (by kernel_rfl) ?_
 refine VQ_next ?_
 refine VC_dec (x < y) (by kernel_rfl) (fun h1 => ?_) (fun h1 => ?_)
 ·refine VC_seq ?_
  refine VC_region ?_
  refine VL_pure 1 [4] [(4, .int .i64 (-1))] (by kernel_rfl) rfl ?_
  refine VL_end (by kernel_rfl) ?_
  refine VQ_next ?_
  refine VC_ret ?_
  refine VQ_then_ret ?_
  refine VQ_ret1 (.int .i64 (-1)) (.inr rfl) rfl rfl ?_
  exact ⟨by unfold cmpI; first | rw [if_pos (by assumption)] | rw [if_neg (by assumption), if_pos (by assumption)] | rw [if_neg (by assumption), if_neg (by assumption)], hS, by omega⟩
 ·refine VC_skip ?_
  refine VQ_next ?_
  refine VC_seq ?_
  refine VC_seq ?_
  refine VC_region ?_
  refine VL_pure 3 [19] [(19, .bool (decide (x > y)))] (by kernel_rfl) rfl ?_
  refine VL_end (by kernel_rfl) ?_
  refine VQ_next ?_
  refine VC_dec (x > y) (by kernel_rfl) (fun h2 => ?_) (fun h2 => ?_)
  ·refine VC_seq ?_
   refine VC_region ?_
   refine VL_pure 1 [4] [(4, .int .i64 1)] (by kernel_rfl) rfl ?_
   refine VL_end (by kernel_rfl) ?_
   refine VQ_next ?_
   refine VC_ret ?_
   refine VQ_then_ret ?_
   refine VQ_ret1 (.int .i64 1) (.inr rfl) rfl rfl ?_
   exact ⟨by unfold cmpI; first | rw [if_pos (by assumption)] | rw [if_neg (by assumption), if_pos (by assumption)] | rw [if_neg (by assumption), if_neg (by assumption)], hS, by omega⟩
  ·refine VC_skip ?_
   refine VQ_next ?_
   refine VC_seq ?_
   refine VC_region ?_
   refine VL_pure 1 [4] [(4, .int .i64 0)] (by kernel_rfl) rfl ?_
   refine VL_end (by kernel_rfl) ?_
   refine VQ_next ?_
   refine VC_ret ?_
   refine VQ_ret1 (.int .i64 0) (.inr rfl) rfl rfl ?_
   exact ⟨by unfold cmpI; first | rw [if_pos (by assumption)] | rw [if_neg (by assumption), if_pos (by assumption)] | rw [if_neg (by assumption), if_neg (by assumption)], hS, by omega⟩

set_option maxRecDepth 100000 in
set_option maxHeartbeats 4000000 in
theorem or_any (a x y z : Int) (b : Nat) (w : World) (ho : Own w b #[.int .i64 x, .int .i64 y, .int .i64 z] a.toNat) :
  CV Try.prog 54 #[.slice (some ⟨b, 0, none⟩) 3 3] w (fun v w1 => v = .int .i64 (if x ≠ 0 then x else if y ≠ 0 then y else z) ∧ Step No w w1 ∧ w.drawn ≤ w1.drawn) := by
 have hS : Step No w w := Step.refl _ _
 refine CV_enter Try.f54 _ 18 [(0, .slice (some ⟨b, 0, none⟩) 3 3)] Try.func54 rfl rfl (by kernel_rfl) rfl ?_
 refine VC_seq ?_
 refine VC_region ?_
 refine VL_pure 1 [0] [(0, .slice (some ⟨b, 0, none⟩) 3 3)] (by kernel_rfl) rfl ?_
 refine VL_end (by kernel_rfl) ?_
 refine VQ_next ?_
 refine VC_seq ?_
 refine VC_region ?_
 refine VL_pure 1 [0, 3] [(0, .slice (some ⟨b, 0, none⟩) 3 3), (3, .int .i64 0)] (by kernel_rfl) rfl ?_
 refine VL_end (by kernel_rfl) ?_
 refine VQ_next ?_
 refine VC_seq ?_
 refine VC_seq ?_
 refine VC_region ?_
 refine VL_pure 3 [3, 6, 7, 8] [(3, .int .i64 0), (6, .slice (some ⟨b, 0, none⟩) 3 3), (7, .int .i64 3), (8, .int .i64 0)] (by kernel_rfl) rfl ?_
 refine VL_end (by kernel_rfl) ?_
 refine VQ_next ?_
 refine VC_block ?_
 refine VC_rounds ?_
 refine VCL_round ?_
 refine VC_seq ?_
 refine VC_region ?_
 refine VL_pure 1 [3, 6, 7, 8, 9] [(3, .int .i64 0), (6, .slice (some ⟨b, 0, none⟩) 3 3), (7, .int .i64 3), (8, .int .i64 0), (9, .bool true)] (by kernel_rfl) rfl ?_
 refine VL_end (by kernel_rfl) ?_
 refine VQ_next ?_
 refine VC_seq ?_
 refine VC_true (by kernel_rfl) ?_
 refine VC_skip ?_
 refine VQ_next ?_
 refine VC_seq ?_
 refine VC_block ?_
 refine VC_seq ?_
 refine VC_region ?_
 refine VL_index (d := 10) (b := b) (o := 0) (len := 3) (sz := 1) (m := 0) (by kernel_rfl) (by kernel_rfl) 0 (by rfl) (by omega) 0 (by omega) ?_
 refine VL_load (d := 11) (t := 3) (a := ⟨b, 0, none⟩) (v := .int .i64 x) (by kernel_rfl) (by kernel_rfl) (Loads.own1 ho (by kernel_rfl) (by rfl)) ?_
 refine VL_pure 3 [3, 6, 7, 8, 5] [(3, .int .i64 0), (6, .slice (some ⟨b, 0, none⟩) 3 3), (7, .int .i64 3), (8, .int .i64 0), (5, .int .i64 x)] (by kernel_rfl) rfl ?_
 refine VL_end (by kernel_rfl) ?_
 refine VQ_next ?_
 refine VC_seq ?_
 refine VC_region ?_
 refine VL_pure 3 [3, 6, 7, 8, 5, 14] [(3, .int .i64 0), (6, .slice (some ⟨b, 0, none⟩) 3 3), (7, .int .i64 3), (8, .int .i64 0), (5, .int .i64 x), (14, .bool (x != 0))] (by kernel_rfl) rfl ?_
 refine VL_end (by kernel_rfl) ?_
 refine VQ_next ?_
 refine VC_ne x 0 (by kernel_rfl) (fun h1 => ?_) (fun h1 => ?_)
 ·refine VC_seq ?_
  refine VC_region ?_
  refine VL_pure 2 [2] [(2, .int .i64 x)] (by kernel_rfl) rfl ?_
  refine VL_end (by kernel_rfl) ?_
  refine VQ_next ?_
  refine VC_ret ?_
  refine VQ_block_ret ?_
  refine VQ_then_ret ?_
  refine VQ_then_ret ?_
  refine VQ_block_ret ?_
  refine VQ_then_ret ?_
  refine VQ_ret1 (.int .i64 x) (.inr rfl) rfl rfl ?_
  exact ⟨congrArg (Value.int .i64) (orI_0 (by omega)), hS, by omega⟩
 ·refine VC_skip ?_
  refine VQ_block_normal ?_
  refine VQ_next ?_
  refine VC_region ?_
  refine VL_pure 2 [3, 6, 7, 8] [(3, .int .i64 0), (6, .slice (some ⟨b, 0, none⟩) 3 3), (7, .int .i64 3), (8, .int .i64 1)] (by kernel_rfl) rfl ?_
  refine VL_end (by kernel_rfl) ?_
  refine VQ_round ?_
  refine VCL_round ?_
  refine VC_seq ?_
  refine VC_region ?_
  refine VL_pure 1 [3, 6, 7, 8, 9] [(3, .int .i64 0), (6, .slice (some ⟨b, 0, none⟩) 3 3), (7, .int .i64 3), (8, .int .i64 1), (9, .bool true)] (by kernel_rfl) rfl ?_
  refine VL_end (by kernel_rfl) ?_
  refine VQ_next ?_
  refine VC_seq ?_
  refine VC_true (by kernel_rfl) ?_
  refine VC_skip ?_
  refine VQ_next ?_
  refine VC_seq ?_
  refine VC_block ?_
  refine VC_seq ?_
  refine VC_region ?_
  refine VL_index (d := 10) (b := b) (o := 0) (len := 3) (sz := 1) (m := 1) (by kernel_rfl) (by kernel_rfl) 1 (by rfl) (by omega) 1 (by omega) ?_
  refine VL_load (d := 11) (t := 3) (a := ⟨b, 1, none⟩) (v := .int .i64 y) (by kernel_rfl) (by kernel_rfl) (Loads.own1 ho (by kernel_rfl) (by rfl)) ?_
  refine VL_pure 3 [3, 6, 7, 8, 5] [(3, .int .i64 0), (6, .slice (some ⟨b, 0, none⟩) 3 3), (7, .int .i64 3), (8, .int .i64 1), (5, .int .i64 y)] (by kernel_rfl) rfl ?_
  refine VL_end (by kernel_rfl) ?_
  refine VQ_next ?_
  refine VC_seq ?_
  refine VC_region ?_
  refine VL_pure 3 [3, 6, 7, 8, 5, 14] [(3, .int .i64 0), (6, .slice (some ⟨b, 0, none⟩) 3 3), (7, .int .i64 3), (8, .int .i64 1), (5, .int .i64 y), (14, .bool (y != 0))] (by kernel_rfl) rfl ?_
  refine VL_end (by kernel_rfl) ?_
  refine VQ_next ?_
  refine VC_ne y 0 (by kernel_rfl) (fun h2 => ?_) (fun h2 => ?_)
  ·refine VC_seq ?_
   refine VC_region ?_
   refine VL_pure 2 [2] [(2, .int .i64 y)] (by kernel_rfl) rfl ?_
   refine VL_end (by kernel_rfl) ?_
   refine VQ_next ?_
   refine VC_ret ?_
   refine VQ_block_ret ?_
   refine VQ_then_ret ?_
   refine VQ_then_ret ?_
   refine VQ_block_ret ?_
   refine VQ_then_ret ?_
   refine VQ_ret1 (.int .i64 y) (.inr rfl) rfl rfl ?_
   exact ⟨congrArg (Value.int .i64) (orI_1 (by omega) (by omega)), hS, by omega⟩
  ·refine VC_skip ?_
   refine VQ_block_normal ?_
   refine VQ_next ?_
   refine VC_region ?_
   refine VL_pure 2 [3, 6, 7, 8] [(3, .int .i64 0), (6, .slice (some ⟨b, 0, none⟩) 3 3), (7, .int .i64 3), (8, .int .i64 2)] (by kernel_rfl) rfl ?_
   refine VL_end (by kernel_rfl) ?_
   refine VQ_round ?_
   refine VCL_round ?_
   refine VC_seq ?_
   refine VC_region ?_
   refine VL_pure 1 [3, 6, 7, 8, 9] [(3, .int .i64 0), (6, .slice (some ⟨b, 0, none⟩) 3 3), (7, .int .i64 3), (8, .int .i64 2), (9, .bool true)] (by kernel_rfl) rfl ?_
   refine VL_end (by kernel_rfl) ?_
   refine VQ_next ?_
   refine VC_seq ?_
   refine VC_true (by kernel_rfl) ?_
   refine VC_skip ?_
   refine VQ_next ?_
   refine VC_seq ?_
   refine VC_block ?_
   refine VC_seq ?_
   refine VC_region ?_
   refine VL_index (d := 10) (b := b) (o := 0) (len := 3) (sz := 1) (m := 2) (by kernel_rfl) (by kernel_rfl) 2 (by rfl) (by omega) 2 (by omega) ?_
   refine VL_load (d := 11) (t := 3) (a := ⟨b, 2, none⟩) (v := .int .i64 z) (by kernel_rfl) (by kernel_rfl) (Loads.own1 ho (by kernel_rfl) (by rfl)) ?_
   refine VL_pure 3 [3, 6, 7, 8, 5] [(3, .int .i64 0), (6, .slice (some ⟨b, 0, none⟩) 3 3), (7, .int .i64 3), (8, .int .i64 2), (5, .int .i64 z)] (by kernel_rfl) rfl ?_
   refine VL_end (by kernel_rfl) ?_
   refine VQ_next ?_
   refine VC_seq ?_
   refine VC_region ?_
   refine VL_pure 3 [3, 6, 7, 8, 5, 14] [(3, .int .i64 0), (6, .slice (some ⟨b, 0, none⟩) 3 3), (7, .int .i64 3), (8, .int .i64 2), (5, .int .i64 z), (14, .bool (z != 0))] (by kernel_rfl) rfl ?_
   refine VL_end (by kernel_rfl) ?_
   refine VQ_next ?_
   refine VC_ne z 0 (by kernel_rfl) (fun h3 => ?_) (fun h3 => ?_)
   ·refine VC_seq ?_
    refine VC_region ?_
    refine VL_pure 2 [2] [(2, .int .i64 z)] (by kernel_rfl) rfl ?_
    refine VL_end (by kernel_rfl) ?_
    refine VQ_next ?_
    refine VC_ret ?_
    refine VQ_block_ret ?_
    refine VQ_then_ret ?_
    refine VQ_then_ret ?_
    refine VQ_block_ret ?_
    refine VQ_then_ret ?_
    refine VQ_ret1 (.int .i64 z) (.inr rfl) rfl rfl ?_
    exact ⟨congrArg (Value.int .i64) (orI_2 (by omega) (by omega)), hS, by omega⟩
   ·refine VC_skip ?_
    refine VQ_block_normal ?_
    refine VQ_next ?_
    refine VC_region ?_
    refine VL_pure 2 [3, 6, 7, 8] [(3, .int .i64 0), (6, .slice (some ⟨b, 0, none⟩) 3 3), (7, .int .i64 3), (8, .int .i64 3)] (by kernel_rfl) rfl ?_
    refine VL_end (by kernel_rfl) ?_
    refine VQ_round ?_
    refine VCL_round ?_
    refine VC_seq ?_
    refine VC_region ?_
    refine VL_pure 1 [3, 6, 7, 8, 9] [(3, .int .i64 0), (6, .slice (some ⟨b, 0, none⟩) 3 3), (7, .int .i64 3), (8, .int .i64 3), (9, .bool false)] (by kernel_rfl) rfl ?_
    refine VL_end (by kernel_rfl) ?_
    refine VQ_next ?_
    refine VC_seq ?_
    refine VC_false (by kernel_rfl) ?_
    refine VC_exit ?_
    refine VQ_then_exit ?_
    refine VQ_then_exit ?_
    refine VQ_block_hit ?_
    refine VQ_next ?_
    refine VC_seq ?_
    refine VC_region ?_
    refine VL_pure 2 [2] [(2, .int .i64 0)] (by kernel_rfl) rfl ?_
    refine VL_end (by kernel_rfl) ?_
    refine VQ_next ?_
    refine VC_ret ?_
    refine VQ_ret1 (.int .i64 0) (.inr rfl) rfl rfl ?_
    exact ⟨congrArg (Value.int .i64) ((orI_3 (by omega) (by omega) (by omega))), hS, by omega⟩

set_option maxRecDepth 100000 in
set_option maxHeartbeats 4000000 in
theorem compare_any (p v c p' v' c' : Int) (w : World) :
  CV Try.prog 45 #[.agg #[.int .i64 p, .int .i64 v, .int .i64 c], .agg #[.int .i64 p', .int .i64 v', .int .i64 c']] w (fun x w1 => x = .int .i64 (cmpK p v c p' v' c') ∧ Step No w w1 ∧ w.drawn ≤ w1.drawn) := by
 have hS : Step No w w := Step.refl _ _
 refine CV_enter Try.f45 _ 22 [(0, .agg #[.int .i64 p, .int .i64 v, .int .i64 c]), (1, .agg #[.int .i64 p', .int .i64 v', .int .i64 c'])] Try.func45 rfl rfl (by kernel_rfl) rfl ?_
 refine VC_seq ?_
 refine VC_region ?_
 have hzs1 := hS.size
 refine VL_box (d := 2) (t := 28) (c := #[.int .i64 p, .int .i64 v, .int .i64 c]) (by kernel_rfl) (by kernel_rfl) ?_
 intro b1 w1 hn1
 replace hS := Step.trans hS (hn1.step No)
 have ho1 := hn1.own
 have hzhn1 := hn1.size
 have hqhn1 := hn1.eqb
 have hrhn1 := hn1.drawn
 have hzs2 := hS.size
 have hzl1 := ho1.lt
 refine VL_box (d := 3) (t := 28) (c := #[.int .i64 p', .int .i64 v', .int .i64 c']) (by kernel_rfl) (by kernel_rfl) ?_
 intro b2 w2 hn2
 replace hS := Step.trans hS (hn2.step No)
 replace ho1 := ho1.no (hn2.step No)
 have ho2 := hn2.own
 have hzhn2 := hn2.size
 have hqhn2 := hn2.eqb
 have hrhn2 := hn2.drawn
 refine VL_pure 3 [2, 3] [(2, .pointer (some ⟨b1, 0, none⟩)), (3, .pointer (some ⟨b2, 0, none⟩))] (by kernel_rfl) rfl ?_
 refine VL_end (by kernel_rfl) ?_
 refine VQ_next ?_
 refine VC_seq ?_
 refine VC_detD [[], [0], [], [2], [0, 1, 2, 3], [], [5], [], [7], [0, 1, 2, 3, 4, 5, 6, 7, 8], [], [10], [], [12], [0, 1, 2, 3, 4, 5, 6, 7, 8, 9, 10, 11, 12, 13], [0, 1, 2, 3, 4, 5, 6, 7, 8, 9, 10, 11, 12, 13, 14], [0, 1, 2, 3, 4, 5, 6, 7, 8, 9, 10, 11, 12, 13, 14, 15], [0, 1, 2, 3, 4, 5, 6, 7, 8, 9, 10, 11, 12, 13, 14, 15, 16]] 14 [.pointer (some ⟨b1, 0, none⟩), .int .i64 p, .pointer (some ⟨b2, 0, none⟩), .int .i64 p', .int .i64 (cmpI p p'), .pointer (some ⟨b1, 1, none⟩), .int .i64 v, .pointer (some ⟨b2, 1, none⟩), .int .i64 v', .int .i64 (cmpI v v'), .pointer (some ⟨b1, 2, none⟩), .int .i64 c, .pointer (some ⟨b2, 2, none⟩), .int .i64 c'] [0, 2, 5, 7, 10, 12] [1, 3, 4, 6, 8, 9, 11, 13] (by kernel_rfl) (by kernel_rfl) (by kernel_rfl) (by kernel_rfl) ?_ ?_
 ·intro w3 hs1
  replace hs1 := hs1.1
  replace hS := Step.trans hS hs1
  replace ho1 := ho1.no hs1
  replace ho2 := ho2.no hs1
  exact ⟨DetD_load (d := 6) (t := 3) (a := ⟨b1, 0, none⟩) (by kernel_rfl) (by kernel_rfl) (Loads.own1 ho1 (by kernel_rfl) (by rfl)), DetD_load (d := 8) (t := 3) (a := ⟨b2, 0, none⟩) (by kernel_rfl) (by kernel_rfl) (Loads.own1 ho2 (by kernel_rfl) (by rfl)), DetD_call (d := 9) (f := 55) (args := #[.int .i64 p, .int .i64 p']) (by kernel_rfl) (by kernel_rfl) (by kernel_rfl) Try.call55 (by exact cmp_any p p' _), DetD_load (d := 11) (t := 3) (a := ⟨b1, 1, none⟩) (by kernel_rfl) (by kernel_rfl) (Loads.own1 ho1 (by kernel_rfl) (by rfl)), DetD_load (d := 13) (t := 3) (a := ⟨b2, 1, none⟩) (by kernel_rfl) (by kernel_rfl) (Loads.own1 ho2 (by kernel_rfl) (by rfl)), DetD_call (d := 14) (f := 55) (args := #[.int .i64 v, .int .i64 v']) (by kernel_rfl) (by kernel_rfl) (by kernel_rfl) Try.call55 (by exact cmp_any v v' _), DetD_load (d := 16) (t := 3) (a := ⟨b1, 2, none⟩) (by kernel_rfl) (by kernel_rfl) (Loads.own1 ho1 (by kernel_rfl) (by rfl)), DetD_load (d := 18) (t := 3) (a := ⟨b2, 2, none⟩) (by kernel_rfl) (by kernel_rfl) (Loads.own1 ho2 (by kernel_rfl) (by rfl)), trivial⟩
 intro w3 hs1
 have hs1d := hs1.2
 replace hs1 := hs1.1
 replace hS := Step.trans hS hs1
 replace ho1 := ho1.no hs1
 replace ho2 := ho2.no hs1
 refine VL_keep [9, 14, 16, 18] [(9, .int .i64 (cmpI p p')), (14, .int .i64 (cmpI v v')), (16, .int .i64 c), (18, .int .i64 c')] (by kernel_rfl) ?_
 have hzs3 := hS.size
 have hzl2 := ho1.lt
 have hzl3 := ho2.lt
 refine VL_call (d := 19) (f := 55) (args := #[.int .i64 c, .int .i64 c']) (by kernel_rfl) (by kernel_rfl) (by kernel_rfl) Try.call55 (cmp_any c c' _) ?_
 rintro _ w4 ⟨rfl, hc1, hdrhc1⟩
 replace hS := Step.trans hS hc1
 replace ho1 := ho1.no hc1
 replace ho2 := ho2.no hc1
 have hzs4 := hS.size
 have hzl4 := ho1.lt
 have hzl5 := ho2.lt
 refine VL_bs (d := 20) (e := 3) (c := #[.int .i64 (cmpI p p'), .int .i64 (cmpI v v'), .int .i64 (cmpI c c')]) (len := 3) (by kernel_rfl) (by kernel_rfl) ?_
 intro b3 w5 hn3
 replace hS := Step.trans hS (hn3.step No)
 replace ho1 := ho1.no (hn3.step No)
 replace ho2 := ho2.no (hn3.step No)
 have ho3 := hn3.own
 have hzhn3 := hn3.size
 have hqhn3 := hn3.eqb
 have hrhn3 := hn3.drawn
 have hzs5 := hS.size
 have hzl6 := ho1.lt
 have hzl7 := ho2.lt
 have hzl8 := ho3.lt
 refine VL_call (d := 21) (f := 54) (args := #[.slice (some ⟨b3, 0, none⟩) 3 3]) (by kernel_rfl) (by kernel_rfl) (by kernel_rfl) Try.call54 (or_any 3 (cmpI p p') (cmpI v v') (cmpI c c') b3 _ ho3) ?_
 rintro _ w6 ⟨rfl, hc2, hdrhc2⟩
 replace hS := Step.trans hS hc2
 replace ho1 := ho1.no hc2
 replace ho2 := ho2.no hc2
 replace ho3 := ho3.no hc2
 refine VL_pure 18 [4] [(4, .int .i64 (cmpK p v c p' v' c'))] (by kernel_rfl) rfl ?_
 refine VL_end (by kernel_rfl) ?_
 refine VQ_next ?_
 refine VC_ret ?_
 refine VQ_ret1 (.int .i64 (cmpK p v c p' v' c')) (.inr rfl) rfl rfl ?_
 exact ⟨rfl, hS, by omega⟩

set_option maxRecDepth 100000 in
set_option maxHeartbeats 4000000 in
theorem less_any (x y : Slot) (w : World) :
  CV Try.prog 44 #[.agg #[.int .i64 x.p, .int .i64 x.v, .int .i64 x.c, .int .i64 x.n, .bool x.used], .agg #[.int .i64 y.p, .int .i64 y.v, .int .i64 y.c, .int .i64 y.n, .bool y.used]] w (fun v w1 => v = .int .i64 (cmpK x.p x.v x.c y.p y.v y.c) ∧ Step No w w1 ∧ w.drawn ≤ w1.drawn) := by
 have hS : Step No w w := Step.refl _ _
 refine CV_enter Try.f44 _ 10 [(0, .agg #[.int .i64 x.p, .int .i64 x.v, .int .i64 x.c, .int .i64 x.n, .bool x.used]), (1, .agg #[.int .i64 y.p, .int .i64 y.v, .int .i64 y.c, .int .i64 y.n, .bool y.used])] Try.func44 rfl rfl (by kernel_rfl) rfl ?_
 refine VC_seq ?_
 refine VC_region ?_
 have hzs1 := hS.size
 refine VL_box (d := 2) (t := 74) (c := #[.int .i64 x.p, .int .i64 x.v, .int .i64 x.c, .int .i64 x.n, .bool x.used]) (by kernel_rfl) (by kernel_rfl) ?_
 intro b1 w1 hn1
 replace hS := Step.trans hS (hn1.step No)
 have ho1 := hn1.own
 have hzhn1 := hn1.size
 have hqhn1 := hn1.eqb
 have hrhn1 := hn1.drawn
 have hzs2 := hS.size
 have hzl1 := ho1.lt
 refine VL_box (d := 3) (t := 74) (c := #[.int .i64 y.p, .int .i64 y.v, .int .i64 y.c, .int .i64 y.n, .bool y.used]) (by kernel_rfl) (by kernel_rfl) ?_
 intro b2 w2 hn2
 replace hS := Step.trans hS (hn2.step No)
 replace ho1 := ho1.no (hn2.step No)
 have ho2 := hn2.own
 have hzhn2 := hn2.size
 have hqhn2 := hn2.eqb
 have hrhn2 := hn2.drawn
 refine VL_pure 3 [2, 3] [(2, .pointer (some ⟨b1, 0, none⟩)), (3, .pointer (some ⟨b2, 0, none⟩))] (by kernel_rfl) rfl ?_
 refine VL_end (by kernel_rfl) ?_
 refine VQ_next ?_
 refine VC_seq ?_
 refine VC_region ?_
 refine VL_pure 1 [3, 5] [(3, .pointer (some ⟨b2, 0, none⟩)), (5, .pointer (some ⟨b1, 0, none⟩))] (by kernel_rfl) rfl ?_
 refine VL_load (d := 6) (t := 28) (a := ⟨b1, 0, none⟩) (v := .agg #[.int .i64 x.p, .int .i64 x.v, .int .i64 x.c]) (by kernel_rfl) (by kernel_rfl) (Loads.ownL ho1 (n := 3) (by kernel_rfl) (by kernel_rfl) (by kernel_rfl)) ?_
 refine VL_pure 3 [6, 7] [(6, .agg #[.int .i64 x.p, .int .i64 x.v, .int .i64 x.c]), (7, .pointer (some ⟨b2, 0, none⟩))] (by kernel_rfl) rfl ?_
 refine VL_load (d := 8) (t := 28) (a := ⟨b2, 0, none⟩) (v := .agg #[.int .i64 y.p, .int .i64 y.v, .int .i64 y.c]) (by kernel_rfl) (by kernel_rfl) (Loads.ownL ho2 (n := 3) (by kernel_rfl) (by kernel_rfl) (by kernel_rfl)) ?_
 have hzs3 := hS.size
 have hzl2 := ho1.lt
 have hzl3 := ho2.lt
 refine VL_call (d := 9) (f := 45) (args := #[.agg #[.int .i64 x.p, .int .i64 x.v, .int .i64 x.c], .agg #[.int .i64 y.p, .int .i64 y.v, .int .i64 y.c]]) (by kernel_rfl) (by kernel_rfl) (by kernel_rfl) Try.call45 (compare_any x.p x.v x.c y.p y.v y.c _) ?_
 rintro _ w3 ⟨rfl, hc1, hdrhc1⟩
 replace hS := Step.trans hS hc1
 replace ho1 := ho1.no hc1
 replace ho2 := ho2.no hc1
 refine VL_pure 6 [4] [(4, .int .i64 (cmpK x.p x.v x.c y.p y.v y.c))] (by kernel_rfl) rfl ?_
 refine VL_end (by kernel_rfl) ?_
 refine VQ_next ?_
 refine VC_ret ?_
 refine VQ_ret1 (.int .i64 (cmpK x.p x.v x.c y.p y.v y.c)) (.inr rfl) rfl rfl ?_
 exact ⟨rfl, hS, by omega⟩

end Go.Proofs.Ythchmlidobgkoaa
end

section
/- The calculus' eighth part: a drawn region in which some operations come to values that nobody knows beforehand (a new block's place, what a call tells). -/
set_option linter.unusedVariables false
set_option linter.unusedSimpArgs false
namespace Go.Vc
open Go.RowKit
section
variable {r : Option Nat} {n : Nat} {ds : List Deferred} {P : Program} {ops : Array Oper} {Q : Exit → Act → World → Prop} {l : List (Nat × Value)} {w : World} {i : Nat}
end
end Go.Vc
end

section
/- The calculus' ninth part: a drawn region walked in one order. What floats (moves, loads of what stays) is settled; what acts stands in a chain. -/
set_option linter.unusedVariables false
set_option linter.unusedSimpArgs false
namespace Go.Vc
open Go.RowKit
section
variable {r : Option Nat} {n : Nat} {ds : List Deferred} {P : Program} {ops : Array Oper} {Q : Exit → Act → World → Prop} {l : List (Nat × Value)} {w : World} {i : Nat}
theorem wpAny_inv {tbl : List (List Nat)} {m : Nat} (hc : ChkL n ops tbl m) (I : (Nat → Bool) → (Nat → Value) → World → Prop)
    (H : ∀ k, k < m → ∀ (D : Nat → Bool) ρ w', I D ρ w' → D k = false → (∀ x ∈ tb tbl k, D x = true) → (∀ j, j < ops.size → D j = true → ∀ x ∈ tb tbl j, D x = true) →
      V1 r n ds P ops Q k (lk ops tbl m l k ρ) w' fun l' w'' => (∃ v d, dstOf ops k = some d ∧ look l' d = some v ∧ I (fun j => if j = k then true else D j) (upd ρ d v) w'') ∨ (dstOf ops k = none ∧ I (fun j => if j = k then true else D j) ρ w''))
    (tail : ∀ (D : Nat → Bool) ρ w', I D ρ w' → (∀ j, j < m → D j = true) → VL r n ds P ops Q m (lm ops m l ρ) w') (f : Nat) :
    ∀ (S : Array Bool) (a : Act) (w' : World), S.size = ops.size → ((List.range ops.size).filter fun j => !S.getD j true).length = f → (∀ k, k < ops.size → S.getD k true = true → ∀ x ∈ tb tbl k, S.getD x true = true) →
      a.tmps.size = n → a.defers = ds → I (fun j => S.getD j true) (env a) w' →
      (∀ t v, look l t = some v → (∀ j, j < m → S.getD j true = true → dstOf ops j ≠ some t) → a.tmps[t]? = some v) → (∀ j, j < m → ∀ t, S.getD j true = true → dstOf ops j = some t → (a.tmps[t]?).isSome = true) →
      (∀ j, m ≤ j → j < ops.size → S.getD j true = false) → wpAnyIn (Fx r) 0 P .any ops Q f S a w' := by
  induction f with
  | zero =>
    intro S a w' hsz hcnt hdown hn hds hI hbase hsome hlate
    have hall : ∀ j, j < ops.size → S.getD j true = true := by
      intro j hj
      cases hb : S.getD j true with
      | true => rfl
      | false =>
        have : j ∈ (List.range ops.size).filter fun j => !S.getD j true := List.mem_filter.2 ⟨List.mem_range.2 hj, by rw [hb]; rfl⟩
        rw [List.eq_nil_of_length_eq_zero hcnt] at this
        cases this
    have hm : m = ops.size := by
      rcases Nat.lt_or_ge m ops.size with h | h
      · have := hlate m (Nat.le_refl _) h
        rw [hall m h] at this; cases this
      · have := hc.le; omega
    have ht := tail _ (env a) w' hI (fun j hj => hall j (by omega))
    have hh := ht a ⟨hn, hds, fun t v hv => ?_⟩
    · refine wpAny_tail hc 0 ops.size S a w' (by omega) (by omega) ⟨hsz, fun j hj => by rw [hall j hj]; simp [hj]⟩ ?_
      rw [hm, show ops.size - ops.size = 0 from by omega] at hh
      exact hh
    · rcases look_append hv with h | h
      · obtain ⟨h1, h2⟩ := look_map h
        obtain ⟨j, hj, hjd⟩ := List.mem_filterMap.1 h1
        have := hsome j (List.mem_range.1 hj) t (hall j (by have := List.mem_range.1 hj; omega)) hjd
        rw [h2]
        unfold env
        obtain ⟨u, hu⟩ := Option.isSome_iff_exists.1 this
        rw [hu]; rfl
      · obtain ⟨h1, h2⟩ := look_filter (p := fun t => allB m fun j => match dstOf ops j with | some d => !Nat.beq d t | none => true) h
        refine hbase t v h1 fun j hj _ hd => ?_
        have := allB_spec h2 j hj
        simp only [hd, Nat.beq_refl] at this
        cases this
  | succ f ih =>
    intro S a w' hsz hcnt hdown hn hds hI hbase hsome hlate
    -- either all of the first part is done, or some of it waits
    by_cases hfull : ∀ j, j < m → S.getD j true = true
    · have ht := tail _ (env a) w' hI hfull
      have hh := ht a ⟨hn, hds, fun t v hv => ?_⟩
      · have hup : Upto ops m S := ⟨hsz, fun j hj => by
          by_cases hjm : j < m
          · rw [hfull j hjm]; simp [hjm]
          · rw [hlate j (by omega) hj]; simp; omega⟩
        have hf : m + (f + 1) = ops.size := by
          have e : (List.range ops.size).filter (fun j => !S.getD j true) = List.range' m (ops.size - m) := by
            have e0 : List.range ops.size = List.range' 0 m ++ List.range' m (ops.size - m) := by
              rw [List.range_eq_range']
              have := List.range'_append (s := 0) (m := m) (n := ops.size - m) (step := 1)
              simp only [Nat.one_mul, Nat.zero_add] at this
              rw [this]
              congr 1
              have := hc.le; omega
            rw [e0, List.filter_append]
            have e1 : (List.range' 0 m).filter (fun j => !S.getD j true) = [] := by
              apply List.filter_eq_nil_iff.2
              intro j hj
              have := (List.mem_range'_1.1 hj).2
              rw [hfull j (by omega)]; simp
            have e2 : (List.range' m (ops.size - m)).filter (fun j => !S.getD j true) = List.range' m (ops.size - m) := by
              apply List.filter_eq_self.2
              intro j hj
              have := List.mem_range'_1.1 hj
              rw [hlate j this.1 (by have := hc.le; omega)]; rfl
            rw [e1, e2]; rfl
          rw [e] at hcnt
          simp at hcnt
          omega
        refine wpAny_tail hc (f + 1) m S a w' (Nat.le_refl _) hf hup ?_
        rw [show f + 1 = ops.size - m from by omega]
        exact hh
      · rcases look_append hv with h | h
        · obtain ⟨h1, h2⟩ := look_map h
          obtain ⟨j, hj, hjd⟩ := List.mem_filterMap.1 h1
          have := hsome j (List.mem_range.1 hj) t (hfull j (List.mem_range.1 hj)) hjd
          rw [h2]
          unfold env
          obtain ⟨u, hu⟩ := Option.isSome_iff_exists.1 this
          rw [hu]; rfl
        · obtain ⟨h1, h2⟩ := look_filter (p := fun t => allB m fun j => match dstOf ops j with | some d => !Nat.beq d t | none => true) h
          refine hbase t v h1 fun j hj _ hd => ?_
          have := allB_spec h2 j hj
          simp only [hd, Nat.beq_refl] at this
          cases this
    · -- some of the first part waits: the least one is ready
      obtain ⟨j0, hj0, hS0⟩ : ∃ j, j < m ∧ S.getD j true = false := by
        apply Classical.byContradiction
        intro hno
        apply hfull
        intro j hj
        cases hb : S.getD j true with
        | true => rfl
        | false => exact absurd ⟨j, hj, hb⟩ hno
      have hle := hc.le
      have hmin : ∃ k, k < m ∧ S.getD k true = false ∧ ∀ x, x < k → S.getD x true = true := by
        have : ∀ d j, d = j → j < m → S.getD j true = false → ∃ k, k < m ∧ S.getD k true = false ∧ ∀ x, x < k → S.getD x true = true := by
          intro d
          induction d using Nat.strongRecOn with
          | _ d ihd =>
            rintro j rfl hj hS
            by_cases hex : ∃ x, x < d ∧ S.getD x true = false
            · obtain ⟨x, hx, hxS⟩ := hex
              exact ihd x hx x rfl (by omega) hxS
            · refine ⟨d, hj, hS, fun x hx => ?_⟩
              cases hb : S.getD x true with
              | true => rfl
              | false => exact absurd ⟨x, hx, hb⟩ hex
        exact this j0 j0 rfl hj0 hS0
      have getD_tf : ∀ x, x < ops.size → S.getD x true = true → S.getD x false = true := by
        intro x hx h
        rw [Array.getD_eq_getD_getElem?, Array.getElem?_eq_getElem (by rw [hsz]; exact hx)] at h ⊢
        exact h
      have getD_ft : ∀ x, S.getD x false = true → S.getD x true = true := by
        intro x h
        rw [Array.getD_eq_getD_getElem?] at h ⊢
        cases hb : S[x]? with
        | none => rfl
        | some b => rw [hb] at h; exact h
      obtain ⟨k0, hk0, hSk0, hk0min⟩ := hmin
      have hready : k0 ∈ Region.ready .any ops S := ready_mem.2 ⟨by omega, hSk0, fun x hx => by
        have := hc.aft k0 (by omega) x hx
        exact getD_tf x (by omega) (hk0min x this)⟩
      refine ⟨fun hn0 => by rw [hn0] at hready; (cases hready), fun k hk => ?_⟩
      obtain ⟨hklt, hkS, hkaft⟩ := ready_mem.1 hk
      have htb : ∀ x ∈ tb tbl k, S.getD x true = true := by
        intro x hx
        rcases hc.why k hklt x hx with h | ⟨j, hj, hjx⟩
        · exact getD_ft x (hkaft x h)
        · exact hdown j (by have := hc.aft k hklt j hj; omega) (getD_ft j (hkaft j hj)) x hjx
      have hkm : k < m := by
        rcases Nat.lt_or_ge k m with h | h
        · exact h
        · have := htb j0 (hc.tail k hklt h j0 (by omega))
          rw [hS0] at this; cases this
      have hV := H k hkm _ (env a) w' hI hkS htb hdown
      have hHas : Has n ds (lk ops tbl m l k (env a)) a := by
        refine ⟨hn, hds, fun t v hv => ?_⟩
        rcases look_append hv with h | h
        · obtain ⟨h1, h2⟩ := look_map h
          obtain ⟨j, hj, hjd⟩ := List.mem_filterMap.1 h1
          have := hsome j (by have := hc.lt k hklt j hj; omega) t (htb j hj) hjd
          rw [h2]
          unfold env
          obtain ⟨u, hu⟩ := Option.isSome_iff_exists.1 this
          rw [hu]; rfl
        · obtain ⟨h1, h2⟩ := look_filter (p := fun t => baseOk ops tbl m k t) h
          refine hbase t v h1 fun j hj hjS hjd => ?_
          have := allB_spec h2 j hj
          simp only [hjd, Nat.beq_refl, Bool.not_true, Bool.false_or] at this
          have hkj := hdown j (by omega) hjS k (nmem_iff.1 this)
          rw [hkS] at hkj; cases hkj
      have h1 := hV a hHas
      have hks : k < S.size := by rw [hsz]; exact hklt
      have getSet : ∀ j, (S.setIfInBounds k true).getD j true = if j = k then true else S.getD j true := by
        intro j
        rw [Array.getD_eq_getD_getElem?]
        by_cases e : j = k
        · subst e; rw [Array.getElem?_setIfInBounds_self_of_lt hks, if_pos rfl]; rfl
        · rw [Array.getElem?_setIfInBounds_ne (by omega), if_neg e, Array.getD_eq_getD_getElem?]
      have hfew : ((List.range ops.size).filter fun j => !(S.setIfInBounds k true).getD j true).length = f := by
        have hpos : k ∈ (List.range ops.size).filter fun j => !S.getD j true := List.mem_filter.2 ⟨List.mem_range.2 hklt, by rw [hkS]; rfl⟩
        have hnd : ((List.range ops.size).filter fun j => !S.getD j true).Nodup := List.Pairwise.filter _ List.nodup_range
        have e : ((List.range ops.size).filter fun j => !(S.setIfInBounds k true).getD j true) = ((List.range ops.size).filter fun j => !S.getD j true).erase k := by
          rw [hnd.erase_eq_filter, List.filter_filter]
          apply List.filter_congr
          intro j _
          rw [getSet j]
          by_cases e : j = k
          · subst e; simp
          · simp [e]
        rw [e, List.length_erase_of_mem hpos, hcnt]
        rfl
      have hdn' : ∀ j, j < ops.size → (S.setIfInBounds k true).getD j true = true → ∀ x ∈ tb tbl j, (S.setIfInBounds k true).getD x true = true := by
        intro j hj hjS x hx
        rw [getSet j] at hjS
        rw [getSet x]
        by_cases ex : x = k
        · rw [if_pos ex]
        · rw [if_neg ex]
          by_cases ej : j = k
          · subst ej; exact htb x hx
          · rw [if_neg ej] at hjS; exact hdown j hj hjS x hx
      rcases hc.dst k hkm with hd0 | ⟨d, hd, hdn, hclob⟩
      · obtain ⟨o, ho, hod⟩ : ∃ o, ops[k]? = some o ∧ o.dst = none := by
          refine ⟨ops[k], Array.getElem?_eq_getElem hklt, ?_⟩
          have := hd0
          unfold dstOf at this
          rw [Array.getElem?_eq_getElem hklt] at this
          exact this
        have h2 := wpOpIn_put0 ho hod (fun a' w'' ⟨l', hl', _⟩ => hl'.defers.trans hds.symm) h1
        refine wpOpIn_mono ?_ h2
        rintro a' w'' ⟨⟨l', hl', hK⟩, v', hv'⟩
        rcases hK with ⟨v, d', hd', _⟩ | ⟨_, hIk⟩
        · rw [hd0] at hd'; cases hd'
        rw [show a' = a from hv']
        refine ih _ a _ (by simp [hsz]) hfew hdn' hn hds (by rw [show (fun j => (S.setIfInBounds k true).getD j true) = (fun j => if j = k then true else S.getD j true) from funext getSet]; exact hIk) ?_ ?_ ?_
        · intro t u hu hno
          exact hbase t u hu fun j hj hjS => hno j hj (by rw [getSet j]; split; rfl; exact hjS)
        · intro j hj t hjS hjd
          by_cases ej : j = k
          · subst ej; rw [hd0] at hjd; cases hjd
          · rw [getSet j, if_neg ej] at hjS; exact hsome j hj t hjS hjd
        · intro j hj hjs
          rw [getSet j, if_neg (by omega)]
          exact hlate j hj hjs
      obtain ⟨o, ho, hod⟩ : ∃ o, ops[k]? = some o ∧ o.dst = some d := Option.bind_eq_some_iff.1 hd
      have h2 := wpOpIn_put ho hod (fun a' w'' ⟨l', hl', _⟩ => hl'.defers.trans hds.symm) h1
      refine wpOpIn_mono ?_ h2
      rintro a' w'' ⟨⟨l', hl', hK⟩, v', rfl⟩
      obtain ⟨v, d', hd', hlv, hIk⟩ : ∃ v d', dstOf ops k = some d' ∧ look l' d' = some v ∧ I (fun j => if j = k then true else S.getD j true) (upd (env a) d' v) w'' := by
        rcases hK with h | ⟨hd0, _⟩
        · exact h
        · rw [hd] at hd0; cases hd0
      rw [hd] at hd'
      simp only [Option.some.injEq] at hd'
      subst hd'
      have hv' : v = v' := by
        have := hl'.get d v hlv
        simp only [Act.put] at this
        rw [Array.getElem?_setIfInBounds_self_of_lt (by rw [hn]; exact hdn)] at this
        simpa using this.symm
      subst hv'
      have hput : ∀ t, t ≠ d → (a.put (some d) v).tmps[t]? = a.tmps[t]? := fun t ht => by
        simp only [Act.put]; exact Array.getElem?_setIfInBounds_ne (by omega)
      have hputd : (a.put (some d) v).tmps[d]? = some v := by
        simp only [Act.put]; exact Array.getElem?_setIfInBounds_self_of_lt (by rw [hn]; exact hdn)
      have henv : env (a.put (some d) v) = upd (env a) d v := by
        funext t
        unfold env upd
        cases e : Nat.beq d t with
        | true =>
          have : d = t := Nat.eq_of_beq_eq_true e
          subst this
          rw [hputd]; rfl
        | false =>
          have hne : d ≠ t := Nat.ne_of_beq_eq_false e
          rw [hput t (by omega)]; rfl
      refine ih _ _ _ (by simp [hsz]) hfew hdn' (by simp [Act.put, hn]) (by simp [Act.put, hds]) (by rw [show (fun j => (S.setIfInBounds k true).getD j true) = (fun j => if j = k then true else S.getD j true) from funext getSet, henv]; exact hIk) ?_ ?_ ?_
      · intro t u hu hno
        have hne : t ≠ d := fun e => hno k hkm (by rw [getSet k, if_pos rfl]) (by rw [e]; exact hd)
        rw [hput t hne]
        exact hbase t u hu fun j hj hjS => hno j hj (by rw [getSet j]; split; rfl; exact hjS)
      · intro j hj t hjS hjd
        by_cases et : t = d
        · rw [et, hputd]; rfl
        · rw [hput t et]
          by_cases ej : j = k
          · subst ej; rw [hd] at hjd; simp only [Option.some.injEq] at hjd; exact absurd hjd.symm et
          · rw [getSet j, if_neg ej] at hjS
            exact hsome j hj t hjS hjd
      · intro j hj hjs
        rw [getSet j, if_neg (by omega)]
        exact hlate j hj hjs


/-! ### The order in which a drawn region is walked -/
def lkn (ops : Array Oper) (tbl : List (List Nat)) (m : Nat) (l : List (Nat × Value)) (kn : List (Nat × Value)) (k : Nat) : List (Nat × Value) :=
  (tb tbl k).filterMap (fun j => match dstOf ops j, look kn j with | some d, some v => some (d, v) | _, _ => none) ++ l.filter (fun p => baseOk ops tbl m k p.1)
def lmn (ops : Array Oper) (m : Nat) (l : List (Nat × Value)) (kn : List (Nat × Value)) : List (Nat × Value) :=
  (List.range m).filterMap (fun j => match dstOf ops j, look kn j with | some d, some v => some (d, v) | _, _ => none) ++ l.filter (fun p => allB m fun j => match dstOf ops j with
    | some d => !Nat.beq d p.1
    | none => true)
def DetX (r : Option Nat) (n : Nat) (ds : List Deferred) (P : Program) (ops : Array Oper) (Q : Exit → Act → World → Prop) (w : World) (l : List (Nat × Value)) (k : Nat) (v : Value) : Prop :=
  V1 r n ds P ops Q k l w fun l' w'' => (∃ d, dstOf ops k = some d ∧ look l' d = some v) ∧ Step No w w''
/-- The region walked in the order 'is': an operation floats (its value is settled in all worlds from here on), or it is the chain's next. -/
def VT (r : Option Nat) (n : Nat) (ds : List Deferred) (P : Program) (ops : Array Oper) (Q : Exit → Act → World → Prop) (tbl : List (List Nat)) (m : Nat) (l : List (Nat × Value)) (R : World → World → Prop) (ch : List Nat) : List Nat → List (Nat × Value) → World → Prop
  | [], kn, w => ∀ w', Step No w w' → VL r n ds P ops Q m (lmn ops m l kn) w'
  | k :: is, kn, w => (∃ v, (∀ w', R w w' → DetX r n ds P ops Q w' (lkn ops tbl m l kn k) k v) ∧ VT r n ds P ops Q tbl m l R ch is ((k, v) :: kn) w) ∨
      (nmem k ch = true ∧ ∀ w0, Step No w w0 → V1 r n ds P ops Q k (lkn ops tbl m l kn k) w0 fun l' w'' => R w0 w'' ∧ ((∃ v d, dstOf ops k = some d ∧ look l' d = some v ∧ VT r n ds P ops Q tbl m l R ch is ((k, v) :: kn) w'') ∨ (dstOf ops k = none ∧ VT r n ds P ops Q tbl m l R ch is kn w'')))
/-- Behind one of the chain stand those alone that wait for it; each stands once. -/
def ordChk (tbl : List (List Nat)) (m : Nat) (ch : List Nat) : List Nat → Bool
  | [] => true
  | k :: is => Nat.blt k m && !nmem k is && (!nmem k ch || is.all (fun x => nmem k (tb tbl x))) && ordChk tbl m ch is
theorem ordChk_split {tbl : List (List Nat)} {m : Nat} {ch : List Nat} : ∀ {pre is : List Nat}, ordChk tbl m ch (pre ++ is) = true → ordChk tbl m ch is = true ∧ (∀ j ∈ pre, j ∉ is) := by
  intro pre
  induction pre with
  | nil => intro is h; exact ⟨h, fun j hj => by cases hj⟩
  | cons k pre ih =>
    intro is h
    simp only [List.cons_append, ordChk, Bool.and_eq_true, Bool.not_eq_true'] at h
    obtain ⟨h1, h2⟩ := ih h.2
    refine ⟨h1, fun j hj hm => ?_⟩
    rcases List.mem_cons.1 hj with rfl | hj
    · have := h.1.1.2
      rw [nmem_iff.2 (List.mem_append_right _ hm)] at this; cases this
    · exact h2 j hj hm
theorem VL_look {l' : List (Nat × Value)} (hs : ∀ t v, look l' t = some v → look l t = some v) (h : VL r n ds P ops Q i l' w) : VL r n ds P ops Q i l w :=
  fun a ha => h a ⟨ha.size, ha.defers, fun t v hv => ha.get t v (hs t v hv)⟩

structure Inv (r : Option Nat) (n : Nat) (ds : List Deferred) (P : Program) (ops : Array Oper) (Q : Exit → Act → World → Prop) (tbl : List (List Nat)) (m : Nat) (l : List (Nat × Value)) (R : World → World → Prop) (ch ord : List Nat) (D : Nat → Bool) (ρ : Nat → Value) (w : World) (pre is : List Nat) (kn : List (Nat × Value)) : Prop where
  vt : VT r n ds P ops Q tbl m l R ch is kn w
  eq : ord = pre ++ is
  done : ∀ j, j < m → D j = true → j ∈ pre
  key : ∀ j v, look kn j = some v → j ∈ pre
  val : ∀ j, j < m → D j = true → ∀ d v, dstOf ops j = some d → look kn j = some v → ρ d = v
  pend : ∀ j ∈ pre, D j = false → ∃ v knj, look kn j = some v ∧ (∀ x u, look knj x = some u → look kn x = some u) ∧ ∀ w', R w w' → DetX r n ds P ops Q w' (lkn ops tbl m l knj j) j v

variable {tbl : List (List Nat)} {m : Nat} {R : World → World → Prop} {ch ord : List Nat}

theorem look_cons {k t : Nat} {v : Value} {kn : List (Nat × Value)} : look ((k, v) :: kn) t = if k = t then some v else look kn t := by
  simp only [look]
  by_cases h : k = t
  · subst h; simp
  · rw [show Nat.beq k t = false from by cases e : Nat.beq k t; rfl; exact absurd (Nat.eq_of_beq_eq_true e) h, if_neg h]; rfl

/-- All that floats is passed. -/
theorem Inv.norm {D : Nat → Bool} {ρ : Nat → Value} (hord : ordChk tbl m ch ord = true) : ∀ {is pre : List Nat} {kn : List (Nat × Value)} {w : World}, Inv r n ds P ops Q tbl m l R ch ord D ρ w pre is kn →
    ∃ pre' is' kn', Inv r n ds P ops Q tbl m l R ch ord D ρ w pre' is' kn' ∧ (is' = [] ∨ ∃ c js, is' = c :: js ∧ nmem c ch = true ∧ ∀ w0, Step No w w0 → V1 r n ds P ops Q c (lkn ops tbl m l kn' c) w0 fun l' w'' => R w0 w'' ∧ ((∃ v d, dstOf ops c = some d ∧ look l' d = some v ∧ VT r n ds P ops Q tbl m l R ch js ((c, v) :: kn') w'') ∨ (dstOf ops c = none ∧ VT r n ds P ops Q tbl m l R ch js kn' w''))) := by
  intro is
  induction is with
  | nil => intro pre kn w h; exact ⟨pre, [], kn, h, .inl rfl⟩
  | cons k is ih =>
    intro pre kn w h
    rcases h.vt with ⟨v, hd, hv⟩ | ⟨hc, hv⟩
    · have hsp := ordChk_split (h.eq ▸ hord)
      have hnk : look kn k = none := by
        cases e : look kn k with
        | none => rfl
        | some u => exact absurd (List.mem_cons_self ..) (hsp.2 k (h.key k u e))
      have hnew : ∀ x u, look kn x = some u → look ((k, v) :: kn) x = some u := by
        intro x u hu
        rw [look_cons, if_neg (by rintro rfl; rw [hnk] at hu; cases hu)]
        exact hu
      refine ih (pre := pre ++ [k]) (kn := (k, v) :: kn) (w := w) ⟨hv, by rw [h.eq]; simp, fun j hj hD => List.mem_append_left _ (h.done j hj hD), ?_, ?_, ?_⟩
      · intro j u hu
        rw [look_cons] at hu
        by_cases e : k = j
        · subst e; simp
        · rw [if_neg e] at hu; exact List.mem_append_left _ (h.key j u hu)
      · intro j hj hD d u hdj hu
        have hjp := h.done j hj hD
        have hne : k ≠ j := by rintro rfl; exact hsp.2 k hjp (List.mem_cons_self ..)
        rw [look_cons, if_neg hne] at hu
        exact h.val j hj hD d u hdj hu
      · intro j hj hD
        rcases List.mem_append.1 hj with hj | hj
        · obtain ⟨u, knj, h1, h2, h3⟩ := h.pend j hj hD
          exact ⟨u, knj, hnew _ _ h1, fun x z hz => hnew _ _ (h2 x z hz), h3⟩
        · simp at hj
          subst hj
          exact ⟨v, kn, by rw [look_cons, if_pos rfl], hnew, hd⟩
    · exact ⟨pre, k :: is, kn, h, .inr ⟨k, is, rfl, hc, hv⟩⟩

theorem lkn_sub {ρ : Nat → Value} {kn : List (Nat × Value)} {k : Nat} (hc : ChkL n ops tbl m) (hk : k < m) (hval : ∀ j ∈ tb tbl k, ∀ d v, dstOf ops j = some d → look kn j = some v → ρ d = v) : ∀ t v, look (lkn ops tbl m l kn k) t = some v → look (lk ops tbl m l k ρ) t = some v := by
  intro t v hv
  unfold lkn at hv
  unfold lk
  rcases look_append hv with h | h
  · obtain ⟨h1, h2⟩ := look_filterMap (ρ := ρ) (D := (tb tbl k).filterMap (dstOf ops)) (by
      intro j hj d u hu
      cases hd : dstOf ops j with
      | none => rw [hd] at hu; cases hu
      | some d' =>
        cases hq : look kn j with
        | none => rw [hd, hq] at hu; cases hu
        | some u' =>
          rw [hd, hq] at hu
          simp only [Option.some.injEq, Prod.mk.injEq] at hu
          obtain ⟨rfl, rfl⟩ := hu
          exact ⟨hval j hj _ _ hd hq, List.mem_filterMap.2 ⟨j, hj, hd⟩⟩) h
    rw [h2]
    exact look_map_mem h1 _
  · by_cases ht : t ∈ (tb tbl k).filterMap (dstOf ops)
    · exfalso
      obtain ⟨h1, h2⟩ := look_filter (p := fun t => baseOk ops tbl m k t) h
      obtain ⟨j, hj, hjd⟩ := List.mem_filterMap.1 ht
      have hjk := hc.lt k (by have := hc.le; omega) j hj
      have := allB_spec h2 j (by omega)
      simp only [hjd, Nat.beq_refl, Bool.not_true, Bool.false_or] at this
      have := hc.lt j (by have := hc.le; omega) k (nmem_iff.1 this)
      omega
    · rw [look_append_right]
      · exact h
      · intro p hp
        obtain ⟨t', ht', rfl⟩ := List.mem_map.1 hp
        intro e
        simp only at e
        exact ht (e ▸ ht')

theorem lmn_sub {ρ : Nat → Value} {kn : List (Nat × Value)} (hval : ∀ j, j < m → ∀ d v, dstOf ops j = some d → look kn j = some v → ρ d = v) : ∀ t v, look (lmn ops m l kn) t = some v → look (lm ops m l ρ) t = some v := by
  intro t v hv
  unfold lmn at hv
  unfold lm
  rcases look_append hv with h | h
  · obtain ⟨h1, h2⟩ := look_filterMap (ρ := ρ) (D := (List.range m).filterMap (dstOf ops)) (by
      intro j hj d u hu
      cases hd : dstOf ops j with
      | none => rw [hd] at hu; cases hu
      | some d' =>
        cases hq : look kn j with
        | none => rw [hd, hq] at hu; cases hu
        | some u' =>
          rw [hd, hq] at hu
          simp only [Option.some.injEq, Prod.mk.injEq] at hu
          obtain ⟨rfl, rfl⟩ := hu
          exact ⟨hval j (List.mem_range.1 hj) _ _ hd hq, List.mem_filterMap.2 ⟨j, hj, hd⟩⟩) h
    rw [h2]
    exact look_map_mem h1 _
  · by_cases ht : t ∈ (List.range m).filterMap (dstOf ops)
    · exfalso
      obtain ⟨h1, h2⟩ := look_filter (p := fun t => allB m fun j => match dstOf ops j with | some d => !Nat.beq d t | none => true) h
      obtain ⟨j, hj, hjd⟩ := List.mem_filterMap.1 ht
      have := allB_spec h2 j (List.mem_range.1 hj)
      simp only [hjd, Nat.beq_refl] at this
      cases this
    · rw [look_append_right]
      · exact h
      · intro p hp
        obtain ⟨t', ht', rfl⟩ := List.mem_map.1 hp
        intro e
        simp only at e
        exact ht (e ▸ ht')

theorem VC_text {id : Nat} (tbl : List (List Nat)) (m : Nat) (R : World → World → Prop) (ch ord : List Nat) (hm : P.follows .mixedOrders = true) (hchk : drawChkL n ops tbl m = true) (hord : ordChk tbl m ch ord = true) (hall : allB m (fun k => nmem k ord) = true)
    (hRr : ∀ x, R x x) (hRt : ∀ {x y z}, R x y → R y z → R x z) (hR0 : ∀ {x y}, Step No x y → R x y)
    (h : VT r n ds P ops Q tbl m l R ch ord [] w.drew) : VC r n ds P Q (.region id ops true) l w := by
  intro a ha
  refine wpIn_region_any hm ?_
  have hc := drawChkL_spec hchk
  have hrep : ∀ j, (Array.replicate ops.size false).getD j true = decide (ops.size ≤ j) := by
    intro j
    rw [Array.getD_eq_getD_getElem?, Array.getElem?_replicate]
    by_cases h : j < ops.size
    · rw [if_pos h]; simp; omega
    · rw [if_neg h]; simp; omega
  have hlt : ∀ j ∈ ord, j < m := by
    have : ∀ is, ordChk tbl m ch is = true → ∀ j ∈ is, j < m := by
      intro is
      induction is with
      | nil => intro _ j hj; cases hj
      | cons k is ih =>
        intro h j hj
        simp only [ordChk, Bool.and_eq_true] at h
        rcases List.mem_cons.1 hj with rfl | hj
        · exact blt_spec h.1.1.1
        · exact ih h.2 j hj
    exact this ord hord
  refine wpAny_inv hc (fun D ρ w1 => ∃ w', Step No w' w1 ∧ ∃ pre is kn, Inv r n ds P ops Q tbl m l R ch ord D ρ w' pre is kn ∧ (is = [] ∨ ∃ c js, is = c :: js ∧ nmem c ch = true ∧ ∀ w0, Step No w' w0 → V1 r n ds P ops Q c (lkn ops tbl m l kn c) w0 fun l' w'' => R w0 w'' ∧ ((∃ v d, dstOf ops c = some d ∧ look l' d = some v ∧ VT r n ds P ops Q tbl m l R ch js ((c, v) :: kn) w'') ∨ (dstOf ops c = none ∧ VT r n ds P ops Q tbl m l R ch js kn w''))))
    ?_ ?_ ops.size _ a _ (by simp) ?_ ?_ ha.size ha.defers ?_ (fun t v hv _ => ha.get t v hv) ?_ ?_
  · rintro k hk D ρ w1 ⟨w', hs1, pre, is, kn, hI, hhead⟩ hDk hanc hdown
    have hsp := ordChk_split (hI.eq ▸ hord)
    have hkord : k ∈ pre ++ is := hI.eq ▸ nmem_iff.1 (allB_spec hall k hk)
    have hle := hc.le
    have ancLt : ∀ j ∈ tb tbl k, j < m := fun j hj => by have := hc.lt k (by omega) j hj; omega
    -- slots of what is done stay
    have hkeep : ∀ d, dstOf ops k = some d → ∀ (v : Value) j, j < m → D j = true → ∀ e, dstOf ops j = some e → upd ρ d v e = ρ e := by
      intro d hd v j hj hDj e he
      rcases hc.dst k hk with h0 | ⟨d', hd', _, hcl⟩
      · rw [h0] at hd; cases hd
      · rw [hd] at hd'
        simp only [Option.some.injEq] at hd'
        subst hd'
        have hjk : j ≠ k := by rintro rfl; rw [hDk] at hDj; cases hDj
        have hnk : k ∉ tb tbl j := fun hmem => by have := hdown j (by omega) hDj k hmem; rw [hDk] at this; cases this
        have := hcl j hj hjk hnk
        unfold upd
        have hne : d ≠ e := by
          rintro rfl
          exact this (List.mem_filterMap.2 ⟨j, List.mem_cons_self .., he⟩)
        rw [show Nat.beq d e = false from by cases q : Nat.beq d e; rfl; exact absurd (Nat.eq_of_beq_eq_true q) hne]
        rfl
    by_cases hkp : k ∈ pre
    · obtain ⟨v, knj, h1, h2, h3⟩ := hI.pend k hkp hDk
      have hv := h3 w1 (hR0 hs1)
      refine V1_sub (lkn_sub hc hk fun j hj d u hd hu => hI.val j (ancLt j hj) (hanc j hj) d u hd (h2 j u hu)) ?_
      intro a ha
      refine wpOpIn_mono ?_ (hv a ha)
      rintro a' w'' ⟨l', hl', ⟨d, hd, hl⟩, hs2⟩
      refine ⟨l', hl', .inl ⟨v, d, hd, hl, w', hs1.trans hs2, pre, is, kn, ⟨hI.vt, hI.eq, ?_, hI.key, ?_, ?_⟩, hhead⟩⟩
      · intro j hj hDj
        by_cases e : j = k
        · rw [e]; exact hkp
        · rw [if_neg e] at hDj; exact hI.done j hj hDj
      · intro j hj hDj e u he hu
        by_cases ejk : j = k
        · subst ejk
          rw [hd] at he
          simp only [Option.some.injEq] at he
          subst he
          rw [h1] at hu
          simp only [Option.some.injEq] at hu
          subst hu
          simp [upd]
        · rw [if_neg ejk] at hDj
          rw [hkeep d hd v j hj hDj e he]
          exact hI.val j hj hDj e u he hu
      · intro j hj hDj
        by_cases ejk : j = k
        · subst ejk; rw [if_pos rfl] at hDj; cases hDj
        · rw [if_neg ejk] at hDj; exact hI.pend j hj hDj
    · have hkis : k ∈ is := by
        rcases List.mem_append.1 hkord with h | h
        · exact absurd h hkp
        · exact h
      rcases hhead with rfl | ⟨c, js, rfl, hcc, hv⟩
      · cases hkis
      have hkc : k = c := by
        rcases List.mem_cons.1 hkis with h | h
        · exact h
        · exfalso
          have h4 := hsp.1
          simp only [ordChk, Bool.and_eq_true] at h4
          have h5 := h4.1.2
          rw [hcc] at h5
          simp only [Bool.not_true, Bool.false_or, List.all_eq_true] at h5
          have h6 := hanc c (nmem_iff.1 (h5 k h))
          have hcm : c < m := blt_spec h4.1.1.1
          exact hsp.2 c (hI.done c hcm h6) (List.mem_cons_self ..)
      subst hkc
      refine V1_sub (lkn_sub hc hk fun j hj d u hd hu => hI.val j (ancLt j hj) (hanc j hj) d u hd hu) ?_
      intro a ha
      refine wpOpIn_mono ?_ (hv w1 hs1 a ha)
      have hnk : look kn k = none := by
        cases e : look kn k with
        | none => rfl
        | some u => exact absurd (hI.key k u e) hkp
      rintro a' w'' ⟨l', hl', hR, hcase⟩
      rcases hcase with ⟨v, d, hd, hl, hvt⟩ | ⟨hd, hvt⟩
      · refine ⟨l', hl', .inl ⟨v, d, hd, hl, w'', Step.refl _ _, Inv.norm hord (pre := pre ++ [k]) ⟨hvt, by rw [hI.eq]; simp, ?_, ?_, ?_, ?_⟩⟩⟩
        · intro j hj hDj
          by_cases e : j = k
          · rw [e]; simp
          · rw [if_neg e] at hDj; exact List.mem_append_left _ (hI.done j hj hDj)
        · intro j u hu
          rw [look_cons] at hu
          by_cases e : k = j
          · subst e; simp
          · rw [if_neg e] at hu; exact List.mem_append_left _ (hI.key j u hu)
        · intro j hj hDj e u he hu
          by_cases ejk : j = k
          · subst ejk
            rw [hd] at he
            simp only [Option.some.injEq] at he
            subst he
            rw [look_cons, if_pos rfl] at hu
            simp only [Option.some.injEq] at hu
            subst hu
            simp [upd]
          · rw [if_neg ejk] at hDj
            rw [look_cons, if_neg (by omega)] at hu
            rw [hkeep d hd v j hj hDj e he]
            exact hI.val j hj hDj e u he hu
        · intro j hj hDj
          by_cases ejk : j = k
          · subst ejk; rw [if_pos rfl] at hDj; cases hDj
          · rw [if_neg ejk] at hDj
            have hjp : j ∈ pre := by
              rcases List.mem_append.1 hj with h | h
              · exact h
              · simp at h; exact absurd h ejk
            obtain ⟨u, knj, h1, h2, h3⟩ := hI.pend j hjp hDj
            have hnew : ∀ x z, look kn x = some z → look ((k, v) :: kn) x = some z := by
              intro x z hz
              rw [look_cons, if_neg (by rintro rfl; rw [hnk] at hz; cases hz)]
              exact hz
            exact ⟨u, knj, hnew _ _ h1, fun x z hz => hnew _ _ (h2 x z hz), fun w2 h2' => h3 w2 (hRt (hR0 hs1) (hRt hR h2'))⟩
      · refine ⟨l', hl', .inr ⟨hd, w'', Step.refl _ _, Inv.norm hord (pre := pre ++ [k]) ⟨hvt, by rw [hI.eq]; simp, ?_, ?_, ?_, ?_⟩⟩⟩
        · intro j hj hDj
          by_cases e : j = k
          · rw [e]; simp
          · rw [if_neg e] at hDj; exact List.mem_append_left _ (hI.done j hj hDj)
        · intro j u hu
          exact List.mem_append_left _ (hI.key j u hu)
        · intro j hj hDj e u he hu
          by_cases ejk : j = k
          · subst ejk; rw [hd] at he; cases he
          · rw [if_neg ejk] at hDj; exact hI.val j hj hDj e u he hu
        · intro j hj hDj
          by_cases ejk : j = k
          · subst ejk; rw [if_pos rfl] at hDj; cases hDj
          · rw [if_neg ejk] at hDj
            have hjp : j ∈ pre := by
              rcases List.mem_append.1 hj with h | h
              · exact h
              · simp at h; exact absurd h ejk
            obtain ⟨u, knj, h1, h2, h3⟩ := hI.pend j hjp hDj
            exact ⟨u, knj, h1, h2, fun w2 h2' => h3 w2 (hRt (hR0 hs1) (hRt hR h2'))⟩
  · rintro D ρ w1 ⟨w', hs1, pre, is, kn, hI, hhead⟩ hD
    have hsp := ordChk_split (hI.eq ▸ hord)
    rcases hhead with rfl | ⟨c, js, rfl, _⟩
    · exact VL_look (lmn_sub fun j hj d v hd hv => hI.val j hj (hD j hj) d v hd hv) (hI.vt w1 hs1)
    · exfalso
      have hcm : c < m := hlt c (by rw [hI.eq]; simp)
      exact hsp.2 c (hI.done c hcm (hD c hcm)) (List.mem_cons_self ..)
  · have : (List.range ops.size).filter (fun j => !(Array.replicate ops.size false).getD j true) = List.range ops.size := List.filter_eq_self.2 fun j hj => by
      rw [hrep j]
      have := List.mem_range.1 hj
      simp; omega
    rw [this]; simp
  · intro k hk h
    rw [hrep k] at h; simp at h; omega
  · refine ⟨_, Step.refl _ _, Inv.norm hord (pre := []) ⟨h, rfl, ?_, (fun j v hv => by cases hv), (fun j hj hDj d v hd hv => by cases hv), (fun j hj => by cases hj)⟩⟩
    intro j hj hDj
    rw [hrep j] at hDj; simp at hDj; have := hc.le; omega
  · intro j hj t h
    rw [hrep j] at h; simp at h; have := hc.le; omega
  · intro j _ hj
    rw [hrep j]; simp; omega

/-! ### Its rules -/
def ptRun (P : Program) (n : Nat) (ops : Array Oper) (tbl : List (List Nat)) (m : Nat) (l : List (Nat × Value)) : List Nat → List (Nat × Value) → Option (List (Nat × Value))
  | [], kn => some kn
  | k :: is, kn => match pureAt P n ops (lkn ops tbl m l kn k) k with
    | some v => ptRun P n ops tbl m l is ((k, v) :: kn)
    | none => none
theorem DetX_pure {w : World} {l : List (Nat × Value)} {k : Nat} {v : Value} (h : pureAt P n ops l k = some v) : DetX r n ds P ops Q w l k v := by
  unfold pureAt at h
  cases ho : ops[k]? with
  | none => rw [ho] at h; cases h
  | some o =>
    rw [ho] at h
    simp only at h
    cases hod : o.dst with
    | none => rw [hod] at h; cases h
    | some d =>
      rw [hod] at h
      simp only at h
      cases hdn : Nat.blt d n with
      | false => rw [hdn] at h; cases h
      | true =>
        rw [hdn] at h
        simp only [cond_true] at h
        exact V1_pure ho h hod (blt_spec hdn) ⟨⟨d, by unfold dstOf; rw [ho]; exact hod, look_head⟩, Step.refl _ _⟩
theorem VT_float {k : Nat} {is : List Nat} {kn : List (Nat × Value)} (v : Value) (hd : ∀ w', R w w' → DetX r n ds P ops Q w' (lkn ops tbl m l kn k) k v) (next : VT r n ds P ops Q tbl m l R ch is ((k, v) :: kn) w) : VT r n ds P ops Q tbl m l R ch (k :: is) kn w := .inl ⟨v, hd, next⟩
theorem VT_run {is0 is : List Nat} {kn kn' : List (Nat × Value)} (h : ptRun P n ops tbl m l is0 kn = some kn') (next : VT r n ds P ops Q tbl m l R ch is kn' w) : VT r n ds P ops Q tbl m l R ch (is0 ++ is) kn w := by
  induction is0 generalizing kn with
  | nil => simp only [ptRun, Option.some.injEq] at h; subst h; exact next
  | cons k is0 ih =>
    simp only [ptRun] at h
    cases hp : pureAt P n ops (lkn ops tbl m l kn k) k with
    | none => rw [hp] at h; cases h
    | some v =>
      rw [hp] at h
      exact VT_float v (fun w' _ => DetX_pure hp) (ih h)
theorem VT_pures (c : Nat) {is : List Nat} {kn kn' : List (Nat × Value)} (h : ptRun P n ops tbl m l (is.take c) kn = some kn') (next : VT r n ds P ops Q tbl m l R ch (is.drop c) kn' w) : VT r n ds P ops Q tbl m l R ch is kn w := by
  have := VT_run h next
  rwa [List.take_append_drop] at this
theorem VT_eq {is : List Nat} {kn : List (Nat × Value)} (kn' : List (Nat × Value)) (h : kn = kn') (next : VT r n ds P ops Q tbl m l R ch is kn' w) : VT r n ds P ops Q tbl m l R ch is kn w := h ▸ next
/-- The chain's next, in whatever world what floats has left. -/
def VTc (r : Option Nat) (n : Nat) (ds : List Deferred) (P : Program) (ops : Array Oper) (Q : Exit → Act → World → Prop) (tbl : List (List Nat)) (m : Nat) (l : List (Nat × Value)) (R : World → World → Prop) (ch : List Nat) (k : Nat) (is : List Nat) (kn : List (Nat × Value)) (w : World) : Prop :=
  V1 r n ds P ops Q k (lkn ops tbl m l kn k) w fun l' w'' => R w w'' ∧ ((∃ v d, dstOf ops k = some d ∧ look l' d = some v ∧ VT r n ds P ops Q tbl m l R ch is ((k, v) :: kn) w'') ∨ (dstOf ops k = none ∧ VT r n ds P ops Q tbl m l R ch is kn w''))
theorem VT_chain {k : Nat} {is : List Nat} {kn : List (Nat × Value)} (hk : nmem k ch = true) (h : ∀ w0, Step No w w0 → VTc r n ds P ops Q tbl m l R ch k is kn w0) : VT r n ds P ops Q tbl m l R ch (k :: is) kn w := .inr ⟨hk, h⟩
theorem VT_end {kn : List (Nat × Value)} (h : ∀ w', Step No w w' → VL r n ds P ops Q m (lmn ops m l kn) w') : VT r n ds P ops Q tbl m l R ch [] kn w := h
theorem VT_load {k d : Nat} {t : TypeId} {a : Addr} {v : Value} {is : List Nat} {kn : List (Nat × Value)} (h : loadOp n ops (lkn ops tbl m l kn k) k = some (d, t, a)) (hd : dstOf ops k = some d) (hv : ∀ w', R w w' → Loads P t w' a v) (next : VT r n ds P ops Q tbl m l R ch is ((k, v) :: kn) w) : VT r n ds P ops Q tbl m l R ch (k :: is) kn w :=
  VT_float v (fun w' hR => V1_load h (hv w' hR) ⟨⟨d, hd, look_head⟩, Step.refl _ _⟩) next
theorem VTc_call {k d f : Nat} {args : Array Value} {S : Value → World → Prop} {is : List Nat} {kn : List (Nat × Value)} (h : callOp ops (lkn ops tbl m l kn k) k = some (d, f, args)) (hd : dstOf ops k = some d) (hdn : Nat.blt d n = true) (hc : ∀ (args : Array Value) (w : World), (callFunc f args).run P w = .ok (.enter f args) w) (hcall : CV P f args w S) (hR : ∀ v w1, S v w1 → R w w1) (next : ∀ v w1, S v w1 → VT r n ds P ops Q tbl m l R ch is ((k, v) :: kn) w1) : VTc r n ds P ops Q tbl m l R ch k is kn w :=
  (V1_call h hdn hc hcall fun v w1 hv => ⟨hR v w1 hv, .inl ⟨v, d, hd, look_head, next v w1 hv⟩⟩)
theorem VTc_bs {k d : Nat} {e : TypeId} {c : Array Value} {len : Nat} {is : List Nat} {kn : List (Nat × Value)} (h : bsOp P n ops (lkn ops tbl m l kn k) k = some (d, e, c, len)) (hd : dstOf ops k = some d) (hR : ∀ b w1, New w w1 b (.cells c e) → R w w1) (next : ∀ b w1, New w w1 b (.cells c e) → VT r n ds P ops Q tbl m l R ch is ((k, .slice (some ⟨b, 0, none⟩) len len) :: kn) w1) : VTc r n ds P ops Q tbl m l R ch k is kn w :=
  (V1_bs h fun b w1 hn => ⟨hR b w1 hn, .inl ⟨_, d, hd, look_head, next b w1 hn⟩⟩)

end
end Go.Vc
end

section
/- The calculus' tenth part: append. -/
set_option linter.unusedVariables false
set_option linter.unusedSimpArgs false
namespace Go.Vc
open Go.RowKit
section
variable {r : Option Nat} {n : Nat} {ds : List Deferred} {P : Program} {ops : Array Oper} {Q : Exit → Act → World → Prop} {l : List (Nat × Value)} {w : World} {i : Nat} {K : List (Nat × Value) → World → Prop}
/-- What append asks of an element's type: its cells, its bytes. -/
def appInfo (P : Program) (e : TypeId) : Option (Nat × Nat) := match P.info? e with
  | some inf => match inf.zero with
    | some z => bif Nat.beq z.cells.size inf.size && Nat.blt 0 inf.size then some (inf.size, inf.bytes) else none
    | none => none
  | none => none
theorem arr2 {α : Type} {a : Array α} {x y : α} (hs : a.size = 2) (h0 : a[0]? = some x) (h1 : a[1]? = some y) : a = #[x, y] := by
  apply Array.ext_getElem?
  intro j
  match j with
  | 0 => simpa using h0
  | 1 => simpa using h1
  | j + 2 => rw [Array.getElem?_eq_none (by omega), Array.getElem?_eq_none (by simp)]
end
end Go.Vc
end

section
/- The calculus' eleventh part: ranges over a function. -/
set_option linter.unusedVariables false
set_option linter.unusedSimpArgs false
namespace Go.Vc
open Go.RowKit

/-! ### 1. The block of a loop's deferred calls, and the marks among a frame's -/
def Dfr (w : World) (D : Nat) : Prop := w.heap[D]? = some (.deferred (some []))
section
variable {F : Nat → Prop} {w w' : World} {D : Nat}
theorem Dfr.lt (h : Dfr w D) : D < w.heap.size := (Array.getElem?_eq_some_iff.1 h).1
theorem Dfr.step (h : Dfr w D) (hs : Step F w w') (hF : ¬ F D) : Dfr w' D := (hs.block D h.lt hF).trans h
theorem Dfr.no (h : Dfr w D) (hs : Step No w w') : Dfr w' D := h.step hs id
end
def markOf (D : Nat) : Deferred := { target := .collected D, args := #[] }
theorem putObj_step {w : World} {b : Nat} (o : Obj) : Step (Just b) w (w.putObj b o) :=
  ⟨rfl, rfl, rfl, by simp, fun k hk hne => World.putObj_heap_other (fun e => hne e)⟩
theorem putObj_size {w : World} {b : Nat} (o : Obj) : (w.putObj b o).heap.size = w.heap.size := by simp

/-! ### 2. A call of yield -/
def YV (P : Program) (L : Nat) (args : Array Value) (w : World) (R : Value → World → Prop) : Prop :=
  ∃ fn tmps assign body, (Instr.yield L args).run P w = .ok (.round L fn tmps assign body) w ∧ RoundIn (Fx none) 0 P L fn tmps assign body w fun e w' => ∃ v, e = .returned v ∧ R v w'
theorem YV.mono {P : Program} {L : Nat} {args : Array Value} {w : World} {R R' : Value → World → Prop} (h : YV P L args w R) (hr : ∀ v w', R v w' → R' v w') : YV P L args w R' := by
  obtain ⟨fn, tmps, assign, body, h1, h2⟩ := h
  exact ⟨fn, tmps, assign, body, h1, h2.mono fun e w' ⟨v, he, hR⟩ => ⟨v, he, hr v w' hR⟩⟩

section
variable {r : Option Nat} {n : Nat} {ds : List Deferred} {P : Program} {ops : Array Oper} {Q : Exit → Act → World → Prop} {l : List (Nat × Value)} {w : World} {i : Nat}
def yieldOp (ops : Array Oper) (l : List (Nat × Value)) (i : Nat) : Option (Nat × Nat × Array Value) :=
  match ops[i]? with
  | none => none
  | some o =>
    match guardOk ops l o, listed l o, o.dst, o.op with
    | some true, true, some d, .call { callee := .value f, args, .. } =>
      match evL l f with
      | .func (.yield L) first captured => some (d, L, first ++ args.map (evL l))
      | _ => none
    | _, _, _, _ => none

theorem V1_yield {d L : Nat} {args : Array Value} {S : Value → World → Prop} (h : yieldOp ops l i = some (d, L, args)) (hd : Nat.blt d n = true)
    (hcall : YV P L args w S) {K : List (Nat × Value) → World → Prop} (next : ∀ v w', S v w' → K ((d, v) :: l) w') :
    V1 none n ds P ops Q i l w K := by
  unfold yieldOp at h
  cases ho : ops[i]? with
  | none => rw [ho] at h; cases h
  | some o =>
    rw [ho] at h
    simp only at h
    cases hg : guardOk ops l o with
    | none => rw [hg] at h; simp at h
    | some b =>
      cases b with
      | false => rw [hg] at h; simp at h
      | true =>
        cases hl : listed l o with
        | false => rw [hg, hl] at h; simp at h
        | true =>
          cases hdst : o.dst with
          | none => rw [hg, hl, hdst] at h; simp at h
          | some d' =>
            rw [hg, hl, hdst] at h
            cases hop : o.op <;> simp only [hop, reduceCtorEq] at h
            case call cl =>
              obtain ⟨callee, cargs, ts⟩ := cl
              cases callee <;> (try (simp at h; done))
              case value x =>
                cases hx : evL l x <;> simp only [hx, reduceCtorEq] at h
                case func fn first captured =>
                  cases fn <;> simp only [reduceCtorEq, Option.some.injEq, Prod.mk.injEq] at h
                  case yield L' =>
                    obtain ⟨rfl, rfl, hargs⟩ := h
                    obtain ⟨fn', tmps, assign, body, hy, hR⟩ := hcall
                    refine V1_run ho hg hl fun a ha => ?_
                    have hrun : (execOp (evL l) o).run P w = .ok (.round L' fn' tmps assign body) w := by
                      simp only [execOp, hop, resolve, hx, Deferred.ofValue, Sem.run_bind, Sem.run_pure, Result.andThen_ok, invoke]
                      rw [hargs]; exact hy
                    rw [hrun]
                    refine ⟨(fun hd => by cases hd), ?_⟩
                    refine RoundIn.mono hR ?_
                    rintro e w' ⟨v, rfl, hS⟩
                    exact ⟨_, by rw [hdst]; exact ha.put _ (blt_spec hd) _, next v w' hS⟩
theorem VL_yield {d L : Nat} {args : Array Value} {S : Value → World → Prop} (h : yieldOp ops l i = some (d, L, args)) (hd : Nat.blt d n = true) (hi : Nat.blt i ops.size = true)
    (hcall : YV P L args w S) (next : ∀ v w', S v w' → VL none n ds P ops Q (i + 1) ((d, v) :: l) w') :
    VL none n ds P ops Q i l w := VL_of_V1 hi (V1_yield h hd hcall next)
end

/-! ### 3. An iterator's contract: what it hands to yield is told beforehand -/
/-- W0: the world at its call. Rd: what it reads lies there still. J M k: k rounds are over; what was laid before the first one lies below M. -/
def IterC (P : Program) (gf : Nat) (lb : Array Value) (xs : List (Array Value)) (Rd : Nat → World → Prop) : Prop :=
  ∀ (L : Nat) (W0 : World) (J Jx : Nat → Nat → World → Prop),
    (∀ M k W W', J M k W → Step No W W' → J M k W') → (∀ M k W W', Jx M k W → Step No W W' → Jx M k W') → (∀ M k W, J M k W → Rd k W) → Rd 0 W0 →
    (∀ M W, W0.heap.size ≤ M → M ≤ W.heap.size → Step No W0 W → J M 0 W) →
    (∀ M k W args, W0.heap.size ≤ M → M ≤ W.heap.size → xs[k]? = some args → J M k W → YV P L args W fun v W' => Step (fun i => i < W0.heap.size ∨ M ≤ i) W W' ∧ (v = .bool true ∧ J M (k + 1) W' ∨ v = .bool false ∧ Jx M (k + 1) W')) →
    CV P gf (#[.func (.yield L) #[] #[]] ++ lb) W0 fun _ W' => ∃ M, W0.heap.size ≤ M ∧ (J M xs.length W' ∨ ∃ k, k ≤ xs.length ∧ Jx M k W')

/-! ### 4. The statement -/
section
variable {r : Option Nat} {n : Nat} {ds : List Deferred} {P : Program} {Q : Exit → Act → World → Prop} {l : List (Nat × Value)} {w : World}

def codeExit : Code → Option Exit
  | .ret => some .ret
  | .exit id => some (.exit id)
  | _ => none

/-- How a round may be left: W3: the world at its body's start. -/
def RoundQ (Fb : Nat → Prop) (J : World → Prop) (Jx : Exit → World → Prop) (W3 : World) : Exit → Act → World → Prop
  | .normal, _, w' => Step Fb W3 w' ∧ J w'
  | .exit id, _, w' => Step Fb W3 w' ∧ Jx (.exit id) w'
  | .ret, _, w' => Step Fb W3 w' ∧ Jx .ret w'
  | _, _, _ => False
/-- Behind the assignments to the loop's left sides. -/
def AsgQ (P : Program) (L : Nat) (body : Code) (Qr : World → Exit → Act → World → Prop) (W : World) : Exit → Act → World → Prop
  | .normal, a, w2 => Step No W w2 ∧ ∀ w3, Step (Just L) w2 w3 → w3.heap.size = w2.heap.size → body.wpIn (Fx (some L)) 0 P (Qr w3) a w3
  | _, _, _ => False
theorem VQ_begin {L : Nat} {body : Code} {Qr : World → Exit → Act → World → Prop} {W : World} (hs : Step No W w) (h : ∀ w3, Step (Just L) w w3 → w3.heap.size = w.heap.size → VC (some L) n ds P (Qr w3) body l w3) :
    VQ n ds (AsgQ P L body Qr W) .normal l w := fun a ha => ⟨hs, fun w3 h3 hz => h w3 h3 hz a ha⟩
theorem VQ_round_end {Fb : Nat → Prop} {J : World → Prop} {Jx : Exit → World → Prop} {W3 : World} (hs : Step Fb W3 w) (hJ : J w) : VQ n ds (RoundQ Fb J Jx W3) .normal l w := fun _ _ => ⟨hs, hJ⟩
theorem VQ_round_exit {Fb : Nat → Prop} {J : World → Prop} {Jx : Exit → World → Prop} {W3 : World} {id : Nat} (hs : Step Fb W3 w) (hJ : Jx (.exit id) w) : VQ n ds (RoundQ Fb J Jx W3) (.exit id) l w := fun _ _ => ⟨hs, hJ⟩
theorem zip_foldl {ps : List Nat} {vs : List Value} {t : Array Value} {l : List (Nat × Value)} (hn : t.size = n) (ht : ∀ k v, look l k = some v → t[k]? = some v) (hps : ∀ p ∈ ps, p < n) :
    ((ps.zip vs).foldl (fun t (x : Nat × Value) => t.setIfInBounds x.1 x.2) t).size = n ∧ ∀ k v, look ((ps.zip vs).reverse ++ l) k = some v → ((ps.zip vs).foldl (fun t (x : Nat × Value) => t.setIfInBounds x.1 x.2) t)[k]? = some v := by
  induction ps generalizing vs t l with
  | nil => exact ⟨by simpa using hn, by simpa using ht⟩
  | cons p ps ih =>
    cases vs with
    | nil => exact ⟨by simpa using hn, by simpa using ht⟩
    | cons v vs =>
      have := ih (vs := vs) (t := t.setIfInBounds p v) (l := (p, v) :: l) (by simpa using hn) (by
        intro k u hk
        simp only [look] at hk
        cases e : Nat.beq p k with
        | true =>
          rw [e] at hk; cases hk
          have : p = k := Nat.eq_of_beq_eq_true e
          subst this
          rw [Array.getElem?_setIfInBounds_self_of_lt (by rw [hn]; exact hps _ (by simp))]
        | false =>
          rw [e] at hk
          rw [Array.getElem?_setIfInBounds_ne (Nat.ne_of_beq_eq_false e)]
          exact ht k u hk) (fun q hq => hps q (by simp [hq]))
      refine ⟨this.1, ?_⟩
      intro k u hk
      refine this.2 k u ?_
      simpa [List.append_assoc] using hk

theorem VC_range {g : Operand} {ps : Array Tmp} {assign body : Code} {gf : Nat} {lb : Array Value} {xs : List (Array Value)} {Rd : Nat → World → Prop} (hg : opV l g = some (.func (.func gf) #[] lb))
    (eg : ∀ (args : Array Value) (w : World), (callFunc gf args).run P w = .ok (.enter gf args) w) (hc : IterC P gf lb xs Rd) (hps : ∀ a ∈ xs, a.size = ps.size) (hpn : ps.toList.all (fun p => Nat.blt p n) = true)
    (Fb : Nat → Nat → Prop) (hFb : ∀ M i, Fb M i → i < w.heap.size ∨ M ≤ i) (J : Nat → Nat → World → Prop) (Jx : Exit → World → Prop)
    (hJ : ∀ M k W W', J M k W → Step (Just (w.heap.size + 1)) W W' → J M k W') (hJx : ∀ e W W', Jx e W → Step (Just (w.heap.size + 1)) W W' → Jx e W')
    (hJn : ∀ M k W W', J M k W → Step No W W' → J M k W') (hJxn : ∀ e W W', Jx e W → Step No W W' → Jx e W')
    (hrd : ∀ M k W, J M k W → Rd k W) (hrd0 : ∀ W, Step No w W → Rd 0 W)
    (h0 : ∀ M W, w.heap.size + 2 ≤ M → M ≤ W.heap.size → Step No w W → Dfr W w.heap.size → J M 0 W)
    (hround : ∀ M k W args, w.heap.size + 2 ≤ M → M ≤ W.heap.size → xs[k]? = some args → J M k W → w.heap.size + 1 < W.heap.size →
      VC (some (w.heap.size + 1)) n [] P (AsgQ P (w.heap.size + 1) body (RoundQ (Fb M) (J M (k + 1)) Jx) W) assign ((ps.toList.zip args.toList).reverse ++ l) W)
    (hdone : ∀ M W, w.heap.size + 2 ≤ M → w.heap.size + 2 ≤ W.heap.size → J M xs.length W → Dfr W w.heap.size → VQ n (markOf w.heap.size :: ds) Q .normal l W)
    (hstop : ∀ e W, w.heap.size + 2 ≤ W.heap.size → Jx e W → Dfr W w.heap.size → VQ n (markOf w.heap.size :: ds) Q e l W) :
    VC none n ds P Q (.rangeFunc g ps assign body) l w := by
  intro a ha
  have hev := opV_spec ha hg
  refine wpIn_rangeFunc ?_
  intro fn hfn
  obtain ⟨rec, hrec⟩ : ∃ rec : LoopState → Option Code → Loop, rec = fun st pe => { state := st, pending := pe, fn, tmps := a.tmps, params := ps, assign, body, defers := w.heap.size } := ⟨_, rfl⟩
  obtain ⟨W1, hW1⟩ : ∃ W1, (w.alloc (.deferred (some []))).alloc (.loop (rec .ready none)) = W1 := ⟨_, rfl⟩
  have hz1 : W1.heap.size = w.heap.size + 2 := by rw [← hW1]; simp
  have hL1 : W1.heap[w.heap.size + 1]? = some (.loop (rec .ready none)) := by
    rw [← hW1]; have := World.alloc_heap_new (w.alloc (.deferred (some []))) (.loop (rec .ready none)); rwa [World.size_alloc] at this
  have hK1 : Dfr W1 w.heap.size := by
    unfold Dfr; rw [← hW1]; exact (Below.heap_alloc _ _ _ (by simp)).trans (World.alloc_heap_new w _)
  have hs1 : Step No w W1 := by
    rw [← hW1]
    exact ⟨rfl, rfl, rfl, by simp; omega, fun k hk _ => (Below.heap_alloc _ _ _ (by simp; omega)).trans (Below.heap_alloc _ _ _ hk)⟩
  refine ⟨w.heap.size + 1, [markOf w.heap.size], W1, { target := .fn (.func gf) lb, args := #[.func (.yield (w.heap.size + 1)) #[] #[]] }, W1, gf,
    #[.func (.yield (w.heap.size + 1)) #[] #[]] ++ lb, W1, ?_, ?_, ?_, ?_, (fun hd => by cases hd), ?_⟩
  · rw [← hW1, hrec]; exact run_enterLoop_outer _ _ _ _ _
  · simp only [resolve, hev]
    simp [go_sem]
  · intro f' _; exact trivial
  · simp [invoke, go_sem, eg]
  · have hstepL : ∀ {W : World} (o : Obj), Step (Just (w.heap.size + 1)) W (W.putObj (w.heap.size + 1) o) := fun o => putObj_step o
    refine callsIn_Fx ?_
    refine Calls.mono (hc (w.heap.size + 1) W1
      (fun M k W => J M k W ∧ W.heap[w.heap.size + 1]? = some (.loop (rec .ready none)) ∧ Dfr W w.heap.size ∧ M ≤ W.heap.size)
      (fun M k W => ∃ c e, codeExit c = some e ∧ Jx e W ∧ W.heap[w.heap.size + 1]? = some (.loop (rec .done (some c))) ∧ Dfr W w.heap.size) ?_ ?_ ?_ ?_ ?_ ?_) ?_
    · rintro M k W W' ⟨hj, hl, hk, hm⟩ hs
      exact ⟨hJn M k W W' hj hs, (hs.no (Array.getElem?_eq_some_iff.1 hl).1).trans hl, hk.no hs, Nat.le_trans hm hs.size⟩
    · rintro M k W W' ⟨c, e, hce, hj, hl, hk⟩ hs
      exact ⟨c, e, hce, hJxn e W W' hj hs, (hs.no (Array.getElem?_eq_some_iff.1 hl).1).trans hl, hk.no hs⟩
    · rintro M k W ⟨hj, _⟩; exact hrd M k W hj
    · exact hrd0 W1 hs1
    · intro M W hM hM2 hs
      rw [hz1] at hM
      exact ⟨h0 M W hM hM2 (hs1.trans hs) (hK1.no hs), (hs.no (by omega)).trans hL1, hK1.no hs, hM2⟩
    · rintro M k W args hM hM2 hx ⟨hj, hl, hk, hm⟩
      rw [hz1] at hM
      have hmem : args ∈ xs := List.mem_of_getElem? hx
      have hy := run_yield (P := P) (args := args) hl (by rw [hrec]; exact hps args hmem)
      rw [hrec] at hy
      have hlt : w.heap.size + 1 < W.heap.size := (Array.getElem?_eq_some_iff.1 hl).1
      refine ⟨fn, _, assign, body, hy, roundIn_of_wpIn hfn ?_⟩
      have hz := zip_foldl (n := n) (ps := ps.toList) (vs := args.toList) (t := a.tmps) (l := l) ha.size ha.get (fun p hp => blt_spec (List.all_eq_true.1 hpn p hp))
      have hfold : ((ps.zip args).foldl (fun tmps (x : Tmp × Value) => tmps.setIfInBounds x.1 x.2) a.tmps) = ((ps.toList.zip args.toList).foldl (fun t (x : Nat × Value) => t.setIfInBounds x.1 x.2) a.tmps) := by
        rw [← Array.foldl_toList, Array.toList_zip]
      refine wpIn_mono (hround M k W args hM hM2 hx hj hlt { tmps := _, defers := [] } ⟨by rw [hfold]; exact hz.1, rfl, fun t v ht => by rw [hfold]; exact hz.2 t v ht⟩) ?_
      rintro e a2 w2 hq
      cases e <;> (try exact hq.elim)
      obtain ⟨hs2, hq⟩ := hq
      have hl2 : w2.heap[w.heap.size + 1]? = some (.loop (rec .ready none)) := (hs2.no hlt).trans hl
      have hlt2 : w.heap.size + 1 < w2.heap.size := (Array.getElem?_eq_some_iff.1 hl2).1
      have hk2 := hk.no hs2
      obtain ⟨W3, hW3⟩ : ∃ W3, w2.putObj (w.heap.size + 1) (.loop { rec .ready none with state := .busy }) = W3 := ⟨_, rfl⟩
      have hs3 : Step (Just (w.heap.size + 1)) w2 W3 := hW3 ▸ putObj_step _
      have hz3 : W3.heap.size = w2.heap.size := by rw [← hW3]; exact putObj_size _
      have hl3 : W3.heap[w.heap.size + 1]? = some (.loop { rec .ready none with state := .busy }) := by rw [← hW3]; exact World.putObj_heap_same hlt2
      have hk3 : Dfr W3 w.heap.size := hk2.step hs3 (by simp)
      refine ⟨W3, by rw [← hW3]; exact run_beginRound hl2 (by rw [hrec]), ?_⟩
      refine wpIn_mono (hq W3 hs3 hz3) ?_
      have hgrow : W.heap.size ≤ W3.heap.size := by have := hs2.size; omega
      have fin : ∀ (jump : Option Code) (W4 : World), Step (Fb M) W3 W4 →
          (Instr.endRound (w.heap.size + 1) jump).run P W4 = .ok (.bool jump.isNone) (W4.putObj (w.heap.size + 1) (.loop (rec (if jump.isNone then .ready else .done) jump))) ∧
          (W4.putObj (w.heap.size + 1) (.loop (rec (if jump.isNone then .ready else .done) jump))).heap[w.heap.size + 1]? = some (.loop (rec (if jump.isNone then .ready else .done) jump)) ∧
          Dfr (W4.putObj (w.heap.size + 1) (.loop (rec (if jump.isNone then .ready else .done) jump))) w.heap.size ∧
          Step (fun i => i < W1.heap.size ∨ M ≤ i) W (W4.putObj (w.heap.size + 1) (.loop (rec (if jump.isNone then .ready else .done) jump))) ∧
          M ≤ (W4.putObj (w.heap.size + 1) (.loop (rec (if jump.isNone then .ready else .done) jump))).heap.size := fun jump W4 hs4 => by
        have hnL : ¬ Fb M (w.heap.size + 1) := fun h => by have := hFb _ _ h; omega
        have hnD : ¬ Fb M w.heap.size := fun h => by have := hFb _ _ h; omega
        have hl4 : W4.heap[w.heap.size + 1]? = some (.loop { rec .ready none with state := .busy }) := (hs4.block _ (by omega) hnL).trans hl3
        have hk4 : Dfr W4 w.heap.size := hk3.step hs4 hnD
        have hr := run_endRound (P := P) jump hl4
        have hlt4 := (Array.getElem?_eq_some_iff.1 hl4).1
        rw [hrec] at hr ⊢
        refine ⟨hr, World.putObj_heap_same hlt4, hk4.step (putObj_step _) (by simp), ?_, by rw [putObj_size]; have := hs4.size; omega⟩
        refine Step.trans (hs2.weak) (Step.trans (hs3.mono fun i hi => .inl (by rw [hz1]; have : i = w.heap.size + 1 := hi; omega)) (Step.trans (hs4.mono fun i hi => ?_) ((putObj_step _).mono fun i hi => .inl (by rw [hz1]; have : i = w.heap.size + 1 := hi; omega))))
        rcases hFb M i hi with h | h
        · exact .inl (by omega)
        · exact .inr h
      rintro e a3 W4 hp
      cases e with
      | normal =>
        obtain ⟨hs4, hj4⟩ := hp
        obtain ⟨hr, hl5, hk5, hs5, hm5⟩ := fin none W4 hs4
        exact ⟨_, _, hr, _, rfl, hs5, .inl ⟨rfl, hJ _ _ _ _ hj4 (putObj_step _), hl5, hk5, hm5⟩⟩
      | ret =>
        obtain ⟨hs4, hj4⟩ := hp
        obtain ⟨hr, hl5, hk5, hs5, hm5⟩ := fin (some .ret) W4 hs4
        exact ⟨_, _, hr, _, rfl, hs5, .inr ⟨rfl, .ret, .ret, rfl, hJx _ _ _ hj4 (putObj_step _), hl5, hk5⟩⟩
      | exit id =>
        obtain ⟨hs4, hj4⟩ := hp
        obtain ⟨hr, hl5, hk5, hs5, hm5⟩ := fin (some (.exit id)) W4 hs4
        exact ⟨_, _, hr, _, rfl, hs5, .inr ⟨rfl, .exit id, .exit id, rfl, hJx _ _ _ hj4 (putObj_step _), hl5, hk5⟩⟩
      | goto t => exact hp.elim
      | panic ch => exact hp.elim
      | outgrown => exact hp.elim
    · rintro e W2 ⟨v, rfl, M, hM, (⟨hj, hl, hk, hm⟩ | ⟨k, hkl, c, e', hce, hj, hl, hk⟩)⟩
      · rw [hz1] at hM
        have hlt := (Array.getElem?_eq_some_iff.1 hl).1
        refine ⟨none, _, by have := run_endLoop (P := P) hl (by rw [hrec]; simp); rw [hrec] at this; exact this, ?_⟩
        exact hdone M _ hM (by rw [putObj_size]; omega) (hJ _ _ _ _ hj (putObj_step _)) (hk.step (putObj_step _) (by simp)) _ ⟨ha.size, by simp [ha.defers], ha.get⟩
      · have hlt := (Array.getElem?_eq_some_iff.1 hl).1
        refine ⟨some c, _, by have := run_endLoop (P := P) hl (by rw [hrec]; simp); rw [hrec] at this; exact this, ?_⟩
        have hq := hstop e' (W2.putObj (w.heap.size + 1) (.loop { rec .done (some c) with state := .exhausted })) (by rw [putObj_size]; omega) (hJx _ _ _ hj (putObj_step _)) (hk.step (putObj_step _) (by simp)) { a with defers := [markOf w.heap.size] ++ a.defers } ⟨ha.size, by simp [ha.defers], ha.get⟩
        rw [hrec] at hq
        cases c <;> simp only [codeExit, reduceCtorEq, Option.some.injEq] at hce
        · subst hce; exact wpIn_exit hq
        · subst hce; exact wpIn_ret hq

/-! ### 5. The end of a function with marks -/
theorem CV_enterM {f : FuncId} {args : Array Value} {S : Value → World → Prop} (fn : Func) (c : Code) (n : Nat) (l0 : List (Nat × Value)) (hf : P.funcs[f]? = some fn) (hb : fn.body = some c)
    (hn : fn.ntmps = n) (ha : Nat.ble args.toList.length n = true) (hl : zipArgs 0 args.toList = l0) (h : VC none n [] P (bodyPostM (Fx none) 0 P fn (PostV S)) c l0 w) : CV P f args w S := by
  refine (callsIn_wide (n := 0)).1 (callsIn_of_wp_marks hf hb trivial ?_)
  refine h _ ⟨?_, rfl, fun t v hv => ?_⟩
  · have := Nat.le_of_ble_eq_true ha
    simp at this
    simp [hn]
    omega
  · rw [← hl] at hv
    obtain ⟨_, h2⟩ := look_zipArgs _ _ _ _ hv
    simp only [Nat.sub_zero, Array.getElem?_toList] at h2
    obtain ⟨hlt, _⟩ := Array.getElem?_eq_some_iff.1 h2
    rw [Array.getElem?_append_left hlt]
    exact h2

/-- The marks' blocks lie there, each once. -/
def Marks : List Nat → World → Prop
  | [], _ => True
  | D :: Ds, w => Dfr w D ∧ D ∉ Ds ∧ Marks Ds w
theorem Marks.step {F : Nat → Prop} {w w' : World} : ∀ {Ds : List Nat}, Marks Ds w → Step F w w' → (∀ D ∈ Ds, ¬ F D) → Marks Ds w'
  | [], _, _, _ => trivial
  | D :: Ds, h, hs, hF => ⟨h.1.step hs (hF D (by simp)), h.2.1, h.2.2.step hs fun D' hD' => hF D' (by simp [hD'])⟩
theorem leavesM {fn : Func} {tmps : Array Value} {R : Ending → World → Prop} : ∀ (Ds : List Nat) (w : World), Marks Ds w →
    (∀ w', Step (fun i => i ∈ Ds) w w' → ∃ v, (results fn tmps).run P w' = .ok v w' ∧ R (.returned v) w') → LeavesInM (Fx none) 0 P fn tmps R (Ds.map markOf) .returning w
  | [], w, _, h => by
    obtain ⟨v, h1, h2⟩ := h w (Step.refl _ _)
    exact ⟨v, h1, h2⟩
  | D :: Ds, w, hm, h => by
    refine ⟨by simp, .inl ⟨D, w.putObj D (.deferred none), rfl, run_takeDeferred hm.1, ?_⟩⟩
    refine leavesM Ds _ (hm.2.2.step (putObj_step _) (fun D' hD' e => hm.2.1 (by rw [← show D' = D from e]; exact hD'))) fun w' hs => h w' ?_
    exact Step.trans ((putObj_step _).mono fun i hi => by simp [show i = D from hi]) (hs.mono fun i hi => by simp [hi])
theorem VQ_retM1 {fn : Func} {S : Value → World → Prop} {t : Nat} (v : Value) (Ds : List Nat) {e : Exit} (he : e = .normal ∨ e = .ret) (hr : fn.results = #[.tmp t]) (hv : look l t = some v) (hm : Marks Ds w) (hS : ∀ w', Step (fun i => i ∈ Ds) w w' → S v w') :
    VQ n (Ds.map markOf) (bodyPostM (Fx none) 0 P fn (PostV S)) e l w := by
  intro a ha
  have : LeavesInM (Fx none) 0 P fn a.tmps (PostV S) a.defers .returning w := by
    rw [ha.defers]
    exact leavesM Ds w hm fun w' hs => ⟨v, by rw [results_tmp hr]; simp [Array.getD_eq_getD_getElem?, ha.get t v hv], v, rfl, hS w' hs⟩
  rcases he with rfl | rfl <;> exact this
end
end Go.Vc
end

section
/- The calculus' twelfth part: slices as lists: what lies there is told by a list; views, rows of one's own, arrays. -/
set_option linter.unusedVariables false
set_option linter.unusedSimpArgs false
namespace Go.Vc
open Go.RowKit

def iL (k : IntKind) (bs : List Int) : List Value := bs.map (Value.int k)
def iA (k : IntKind) (bs : List Int) : Array Value := (iL k bs).toArray
section
variable {k : IntKind} {bs bs' : List Int}
@[simp] theorem iL_length : (iL k bs).length = bs.length := by simp [iL]
@[simp] theorem iA_size : (iA k bs).size = bs.length := by simp [iA]
theorem iL_get (j : Nat) (h : j < bs.length) : (iL k bs)[j]? = some (.int k (bs.getD j 0)) := by
  simp [iL, List.getD, List.getElem?_eq_getElem h]
theorem iA_get (j : Nat) (h : j < bs.length) : (iA k bs)[j]? = some (.int k (bs.getD j 0)) := by
  rw [← iL_get j h]; simp [iA]
theorem iL_take (j : Nat) : iL k (bs.take j) = (iL k bs).take j := by simp [iL]
end

/-! ### 1. A view: what lies at a slice's address, all of it below B -/
def Sl (w : World) (B : Nat) (A : Option Addr) (xs : List Value) : Prop :=
  0 < xs.length → ∃ b o, A = some ⟨b, o, none⟩ ∧ b < B ∧ ∀ j u, xs[j]? = some u → w.cell? ⟨b, o + j, none⟩ = some u
section
variable {F : Nat → Prop} {w w' : World} {B B' : Nat} {A : Option Addr} {xs ys : List Value} {P : Program}
theorem Sl.nil : Sl w B A [] := fun h => by simp at h
theorem Sl.step (h : Sl w B A xs) (hs : Step F w w') (hF : ∀ k, k < B → ¬ F k) : Sl w' B A xs := by
  intro h0
  obtain ⟨b, o, hA, hb, hc⟩ := h h0
  exact ⟨b, o, hA, hb, fun j u hu => hs.cell (hF b hb) (hc j u hu)⟩
theorem Sl.no (h : Sl w B A xs) (hs : Step No w w') : Sl w' B A xs := h.step hs fun _ _ => id
theorem Sl.mono (h : Sl w B A xs) (hB : B ≤ B') : Sl w B' A xs := by
  intro h0
  obtain ⟨b, o, hA, hb, hc⟩ := h h0
  exact ⟨b, o, hA, by omega, hc⟩
theorem Sl.cast (h : Sl w B A xs) (e : xs = ys) : Sl w B A ys := e ▸ h
theorem Sl.open (h : Sl w B A xs) (h0 : 0 < xs.length) : ∃ b o, A = some ⟨b, o, none⟩ ∧ b < B := by
  obtain ⟨b, o, hA, hb, _⟩ := h h0
  exact ⟨b, o, hA, hb⟩
theorem Sl.get {b o : Nat} (h : Sl w B (some ⟨b, o, none⟩) xs) (j : Nat) (u : Value) (hu : xs[j]? = some u) : w.cell? ⟨b, o + j, none⟩ = some u := by
  obtain ⟨hlt, _⟩ := List.getElem?_eq_some_iff.1 hu
  obtain ⟨b', o', hA, _, hc⟩ := h (by omega)
  cases hA
  exact hc j u hu
theorem Sl.ld {b o : Nat} {t : TypeId} {u : Value} (h : Sl w B (some ⟨b, o, none⟩) xs) (ht : oneB P t = true) (j : Nat) (hu : xs[j]? = some u) : Loads P t w ⟨b, o + j, none⟩ u := Loads.one ht (h.get j u hu)
theorem Sl.ld0 {b : Nat} {t : TypeId} {u : Value} (h : Sl w B (some ⟨b, 0, none⟩) xs) (ht : oneB P t = true) (j : Nat) (hu : xs[j]? = some u) : Loads P t w ⟨b, j, none⟩ u := by
  have := h.ld ht j hu
  rwa [Nat.zero_add] at this
theorem Sl.sub {b o : Nat} (h : Sl w B (some ⟨b, o, none⟩) xs) (L M : Nat) : Sl w B (some ⟨b, o + L, none⟩) ((xs.drop L).take M) := by
  intro h0
  obtain ⟨b', o', hA, hb, hc⟩ := h (by simp at h0; omega)
  cases hA
  refine ⟨b, o + L, rfl, hb, fun j u hu => ?_⟩
  rw [List.getElem?_take] at hu
  split at hu
  · rw [List.getElem?_drop] at hu
    have := hc (L + j) u hu
    rwa [← Nat.add_assoc] at this
  · cases hu
theorem Own.sl {b : Nat} {c : Array Value} {e : TypeId} (h : Own w b c e) (hB : b < B) : Sl w B (some ⟨b, 0, none⟩) c.toList := by
  intro _
  refine ⟨b, 0, rfl, hB, fun j u hu => ?_⟩
  rw [Nat.zero_add, h.cell]
  simpa using hu
end

theorem Sl.keepB {F : Nat → Prop} {w w' : World} {B b o : Nat} {xs : List Value} (h : Sl w B (some ⟨b, o, none⟩) xs) (hs : Step F w w') (hF : ¬ F b) : Sl w' B (some ⟨b, o, none⟩) xs := by
  intro h0
  obtain ⟨b', o', hA, hb, hc⟩ := h h0
  cases hA
  exact ⟨b, o, rfl, hb, fun j u hu => hs.cell hF (hc j u hu)⟩
theorem Sl.cut {w : World} {B b o o' L H M : Nat} {xs : List Value} (h : Sl w B (some ⟨b, o, none⟩) xs) (ho : (if M = L then o else o + L * 1) = o') (hM : H ≤ M) : Sl w B (some ⟨b, o', none⟩) ((xs.drop L).take (H - L)) := by
  by_cases e : M = L
  · rw [show H - L = 0 by omega, List.take_zero]; exact Sl.nil
  · rw [if_neg e, Nat.mul_one] at ho
    rw [← ho]
    exact h.sub L (H - L)
theorem Sl.take {w : World} {B : Nat} {A : Option Addr} {xs : List Value} (h : Sl w B A xs) (m : Nat) : Sl w B A (xs.take m) := by
  intro h0
  obtain ⟨b, o, hA, hb, hc⟩ := h (by simp at h0; omega)
  exact ⟨b, o, hA, hb, fun j u hu => hc j u (by rw [List.getElem?_take] at hu; split at hu <;> simp_all)⟩
/-! ### 2. A row of one's own, of elements of one cell -/
def Rw (w : World) (base : Nat) (e : TypeId) (A : Option Addr) (n c : Nat) (xs : List Value) : Prop := w.ownsRow base e 1 (.slice A n c) n xs
section
variable {F : Nat → Prop} {w w' w0 : World} {B base base' n n' c c' : Nat} {e : TypeId} {A : Option Addr} {xs ys : List Value} {P : Program}
theorem Rw.len (h : Rw w base e A n c xs) : xs.length = n := by have := h.1; omega
theorem Rw.nil (w : World) (base : Nat) (e : TypeId) : Rw w base e none 0 0 [] := World.ownsRow_nil w base e 1
theorem Rw.cast (h : Rw w base e A n c xs) (hn : n = n') (hx : xs = ys) : Rw w base e A n' c ys := by subst hn; subst hx; exact h
theorem Rw.keep (h : Rw w base e A n c xs) (hs : Step F w w') (hF : ∀ k, base ≤ k → ¬ F k) : Rw w' base e A n c xs := by
  refine ⟨h.1, ?_⟩
  rcases h.2 with hn | ⟨g, cap, cur, hv, hb, hg, rest⟩
  · exact .inl hn
  · exact .inr ⟨g, cap, cur, hv, hb, (hs.block g (Array.getElem?_eq_some_iff.1 hg).1 (hF g hb)).trans hg, rest⟩
theorem Rw.step (h : Rw w base e A n c xs) (hs : Step F w w') (hF : ∀ k, base ≤ k → ¬ F k) : Rw w' base e A n c xs := h.keep hs hF
theorem Rw.no (h : Rw w base e A n c xs) (hs : Step No w w') : Rw w' base e A n c xs := h.keep hs fun _ _ => id
theorem Rw.low (h : Rw w base e A n c xs) (hb : base' ≤ base) : Rw w base' e A n c xs := by
  refine ⟨h.1, ?_⟩
  rcases h.2 with hn | ⟨g, cap, cur, hv, hb', rest⟩
  · exact .inl hn
  · exact .inr ⟨g, cap, cur, hv, by omega, rest⟩
theorem Rw.cap (h : Rw w base e A n c xs) : n ≤ c := by
  rcases h.2 with ⟨hv, hn⟩ | ⟨g, cap, cur, hv, hb', _, hc, _⟩
  · cases hv; omega
  · cases hv; exact hc
theorem Rw.sl (h : Rw w base e A n c xs) : Sl w w.heap.size A xs := by
  intro h0
  rcases h.2 with ⟨hv, hn⟩ | ⟨g, cap, cur, hv, hb', hg, _, _, _, ht⟩
  · have := h.1; omega
  · cases hv
    refine ⟨g, 0, rfl, (Array.getElem?_eq_some_iff.1 hg).1, fun j u hu => ?_⟩
    rw [Nat.zero_add, (show Own w g cur e from hg).cell, ← ht] at *
    rw [List.getElem?_take] at hu
    split at hu
    · simpa using hu
    · cases hu
/-- A row that isn't empty has a block. -/
theorem Rw.open (h : Rw w base e A n c xs) (h0 : 0 < n) : ∃ g cur, A = some ⟨g, 0, none⟩ ∧ base ≤ g ∧ g < w.heap.size ∧ Own w g cur e ∧ cur.size = c ∧ n ≤ c ∧ c ≤ maxLen ∧ cur.toList.take n = xs := by
  rcases h.2 with ⟨hv, hn⟩ | ⟨g, cap, cur, hv, hb', hg, hc, hm, hs, ht⟩
  · omega
  · cases hv
    exact ⟨g, cur, rfl, hb', (Array.getElem?_eq_some_iff.1 hg).1, hg, by simpa using hs, hc, hm, by simpa using ht⟩
theorem Rw.of_own {g : Nat} {cur : Array Value} (ho : Own w g cur e) (hb : base ≤ g) (hs : cur.size = c) (hn : n ≤ c) (hm : c ≤ maxLen) (ht : cur.toList.take n = xs) : Rw w base e (some ⟨g, 0, none⟩) n c xs := by
  refine ⟨?_, .inr ⟨g, c, cur, rfl, hb, ho, hn, hm, by simpa using hs, by simpa using ht⟩⟩
  rw [← ht]; simp; omega
theorem Rw.of_new {g : Nat} {cur : Array Value} (ho : Own w g cur e) (hb : base ≤ g) (hm : cur.size ≤ maxLen) : Rw w base e (some ⟨g, 0, none⟩) cur.size cur.size cur.toList :=
  Rw.of_own ho hb rfl (Nat.le_refl _) hm (List.take_of_length_le (by simp))
theorem Rw.ld {g j : Nat} {t : TypeId} {u : Value} (h : Rw w base e (some ⟨g, 0, none⟩) n c xs) (ht : oneB P t = true) (hu : xs[j]? = some u) : Loads P t w ⟨g, j, none⟩ u := h.sl.ld0 ht j hu
theorem take_setRow {cur : Array Value} {j n : Nat} {v : Value} (hj : j < n) (hn : n ≤ cur.size) : (setRow cur j [v]).toList.take n = (cur.toList.take n).set j v := by
  apply List.ext_getElem?
  intro q
  rw [List.getElem?_take, List.getElem?_set, List.getElem?_take]
  have hg := getElem?_setRow [v] cur j (by simp; omega) q
  rw [← Array.getElem?_toList] at hg
  by_cases hq : j = q
  · subst hq
    rw [if_pos hj, hg]
    simp
    omega
  · have hc : ¬ (j ≤ q ∧ q < j + [v].length) := by
      show ¬ (j ≤ q ∧ q < j + 1)
      omega
    rw [if_neg hc] at hg
    rw [if_neg hq, hg]
    simp
/-- A store into a row. -/
theorem Rw.put {g j : Nat} {cur : Array Value} {v : Value} (hx : cur.toList.take n = xs) (hw : Wr w w' g (setRow cur j [v]) e) (hb : base ≤ g) (hs : cur.size = c) (hn : n ≤ c) (hm : c ≤ maxLen) (hj : j < n) : Rw w' base e (some ⟨g, 0, none⟩) n c (xs.set j v) :=
  Rw.of_own hw.own hb (by rw [size_setRow]; exact hs) hn hm (by rw [take_setRow hj (by omega), hx])
/-- What an append leaves. -/
theorem Rw.of_row {v : Value} (h : w.ownsRow base e 1 v n xs) : ∃ A c, v = .slice A n c ∧ Rw w base e A n c xs := by
  rcases h.2 with ⟨hv, hn⟩ | ⟨g, cap, cur, hv, hb', _⟩
  · subst hv; subst hn; exact ⟨none, 0, rfl, h⟩
  · subst hv; exact ⟨_, _, rfl, h⟩
theorem Rw.grown (h : Rw w base e A n c xs) (hg : w.grownBy w' (Value.slice A n c).ownBlock) : Step (fun k => base ≤ k) w w' :=
  Step.of_grown hg fun k hk _ => (h.lt k hk).1
end

/-! ### 3. append of a slice that may be nil -/
section
variable {r : Option Nat} {n : Nat} {ds : List Deferred} {P : Program} {ops : Array Oper} {Q : Exit → Act → World → Prop} {l : List (Nat × Value)} {w : World} {i : Nat} {K : List (Nat × Value) → World → Prop}
def appOpS (P : Program) (n : Nat) (ops : Array Oper) (l : List (Nat × Value)) (i : Nat) : Option (Nat × TypeId × Option Addr × Nat × Nat × Option Addr × Nat × Nat) :=
  match theOp ops l i with
  | some { dst := some d, op := .call { callee := .builtin .append, args := ags, argTypes := ts }, .. } =>
    match (ts[0]? : Option TypeId), (ts[1]? : Option TypeId), ((ags.map (evL l))[0]? : Option Value), ((ags.map (evL l))[1]? : Option Value) with
    | some t, some t', some (Value.slice A m c), some (Value.slice A2 m2 c2) => match P.underlying t with
      | some (TypeDesc.slice e) => bif Nat.blt d n && Nat.beq t t' && Nat.beq ts.size 2 && Nat.beq ags.size 2 then some (d, e, A, m, c, A2, m2, c2) else none
      | _ => none
    | _, _, _, _ => none
  | _ => none
theorem run_append_empty {t ty e : TypeId} {inf : TypeInfo} (ht : P.underlying t = some (.slice e)) (hi : P.info? e = some inf) (A A2 : Option Addr) (m c c2 : Nat) (hm : m ≤ c) :
    (Builtin.append_ #[t, t] ty #[.slice A m c, .slice A2 0 c2]).run P w = .ok (.slice A m c) w := by
  have hf : (Builtin.firstCells inf.size 0 (.slice A2 0 c2)).run P w = .ok #[] w := by
    cases A2 <;> simp [Builtin.firstCells, loadCells, loadCellsFrom]
  cases A <;> simp [Builtin.append_, run_underlying ht, sizeOf, typeInfo, hi, Builtin.lenOf, hm, hf, storeCells]

end

/-! ### 4. Rows whose block is known; arrays -/
section
variable {F : Nat → Prop} {w w' w0 : World} {B base base' n n' c c' : Nat} {e : TypeId} {A : Option Addr} {xs ys : List Value} {P : Program} {k : IntKind} {bs bs' : List Int}
theorem Rw.openG {g : Nat} (h : Rw w base e (some ⟨g, 0, none⟩) n c xs) : ∃ cur, base ≤ g ∧ g < w.heap.size ∧ Own w g cur e ∧ cur.size = c ∧ n ≤ c ∧ c ≤ maxLen ∧ cur.toList.take n = xs := by
  rcases h.2 with ⟨hv, hn⟩ | ⟨g, cap, cur, hv, hb', hg, hc, hm, hs, ht⟩
  · cases hv
  · cases hv
    exact ⟨cur, hb', (Array.getElem?_eq_some_iff.1 hg).1, hg, by simpa using hs, hc, hm, by simpa using ht⟩
theorem Rw.keepG {g : Nat} (h : Rw w base e (some ⟨g, 0, none⟩) n c xs) (hs : Step F w w') (hF : ¬ F g) : Rw w' base e (some ⟨g, 0, none⟩) n c xs := by
  obtain ⟨cur, hb, hl, ho, h1, h2, h3, h4⟩ := h.openG
  exact Rw.of_own (ho.step hs hF) hb h1 h2 h3 h4
theorem Rw.ldI {g j : Nat} {t : TypeId} (h : Rw w base e (some ⟨g, 0, none⟩) n c (iL k bs)) (ht : oneB P t = true) (hj : j < n) : Loads P t w ⟨g, j, none⟩ (.int k (bs.getD j 0)) :=
  h.ld ht (iL_get j (by have := h.len; simp at this; omega))
theorem Rw.slI (h : Rw w base e A n c (iL k bs)) : Sl w w.heap.size A (iL k bs) := h.sl
theorem Rw.lenI (h : Rw w base e A n c (iL k bs)) : bs.length = n := by have := h.len; simpa using this
theorem Sl.ldI {b o : Nat} {t : TypeId} (h : Sl w B (some ⟨b, o, none⟩) (iL k bs)) (ht : oneB P t = true) (j : Nat) (hj : j < bs.length) : Loads P t w ⟨b, o + j, none⟩ (.int k (bs.getD j 0)) := h.ld ht j (iL_get j hj)
theorem Own.slI {b : Nat} (h : Own w b (iA k bs) e) (hB : b < B) : Sl w B (some ⟨b, 0, none⟩) (iL k bs) := by simpa [iA] using h.sl hB
end
section
variable {r : Option Nat} {n : Nat} {ds : List Deferred} {P : Program} {ops : Array Oper} {Q : Exit → Act → World → Prop} {l : List (Nat × Value)} {w : World} {i : Nat} {K : List (Nat × Value) → World → Prop}
end
section
variable {r : Option Nat} {n : Nat} {ds : List Deferred} {P : Program} {ops : Array Oper} {Q : Exit → Act → World → Prop} {tbl : List (List Nat)} {m : Nat} {l : List (Nat × Value)} {R : World → World → Prop} {ch : List Nat} {w : World}
end
/-! ### 5. Shifts by a variable -/
section
variable {r : Option Nat} {n : Nat} {ds : List Deferred} {P : Program} {ops : Array Oper} {Q : Exit → Act → World → Prop} {l : List (Nat × Value)} {w : World} {i : Nat} {K : List (Nat × Value) → World → Prop}
end
/-! ### 6. make -/
section
variable {r : Option Nat} {n : Nat} {ds : List Deferred} {P : Program} {ops : Array Oper} {Q : Exit → Act → World → Prop} {l : List (Nat × Value)} {w : World} {i : Nat} {K : List (Nat × Value) → World → Prop}
theorem Rw.made {w : World} {g e m : Nat} {k : IntKind} (ho : Own w g (iA k (List.replicate m 0)) e) (hm : m ≤ maxLen) : Rw w g e (some ⟨g, 0, none⟩) m m (iL k (List.replicate m 0)) :=
  Rw.of_own ho (Nat.le_refl _) (by simp) (Nat.le_refl _) hm (by rw [List.take_of_length_le (by simp [iA])]; simp [iA])
end
/-! ### 7. copy out of a slice that may be nil -/
def putL {α : Type} (c : List α) (o : Nat) (vs : List α) : List α := c.take o ++ vs ++ c.drop (o + vs.length)
section
variable {r : Option Nat} {n : Nat} {ds : List Deferred} {P : Program} {ops : Array Oper} {Q : Exit → Act → World → Prop} {l : List (Nat × Value)} {w : World} {i : Nat} {K : List (Nat × Value) → World → Prop}
end
/-! ### 8. Arrays are equal -/
theorem Loads.row {w : World} {base e g n c : Nat} {k : IntKind} {bs : List Int} {P : Program} {t : TypeId} (h : Rw w base e (some ⟨g, 0, none⟩) n c (iL k bs)) (ht : aggB P t = some n) : Loads P t w ⟨g, 0, none⟩ (.agg (iA k bs)) := by
  have hl := h.lenI
  refine Loads.cells ht _ (by simp [hl]) fun j hj => ?_
  rw [add_none, iA_get j (by omega)]
  exact h.slI.get j _ (iL_get j (by omega))
section
variable {r : Option Nat} {n : Nat} {ds : List Deferred} {P : Program} {ops : Array Oper} {Q : Exit → Act → World → Prop} {l : List (Nat × Value)} {w : World} {i : Nat}
end
end Go.Vc
end

section
/- More rules for slices: an address of any kind; copy in a region that draws its order. -/
set_option linter.unusedVariables false
set_option linter.unusedSimpArgs false
namespace Go.Vc
open Go.RowKit
section
variable {r : Option Nat} {n : Nat} {ds : List Deferred} {P : Program} {ops : Array Oper} {Q : Exit → Act → World → Prop} {tbl : List (List Nat)} {m : Nat} {l : List (Nat × Value)} {R : World → World → Prop} {ch : List Nat} {w : World} {i : Nat} {K : List (Nat × Value) → World → Prop}
def sliceOpA (P : Program) (n : Nat) (ops : Array Oper) (l : List (Nat × Value)) (i : Nat) : Option (Nat × Option Addr × Nat × Nat × Nat × Option Int × Option Int × Option Int) :=
  match theOp ops l i with
  | some { dst := some d, op := .slice t x lo hi mx, .. } =>
    match optInt l lo, optInt l hi, optInt l mx with
    | some lo, some hi, some mx => match P.underlying t, evL l x with
      | some (.slice elem), .slice A len cap => match (P.info? elem).map (·.size) with
        | some sz => bif Nat.blt d n then some (d, A, sz, len, cap, lo, hi, mx) else none
        | none => none
      | _, _ => none
    | _, _, _ => none
  | _ => none
def movA (A : Option Addr) (b : Bool) (k : Nat) : Option Addr := A.map fun a => bif b then a else a.add k
theorem V1_sliceA {d sz len cap : Nat} {A : Option Addr} {lo hi mx : Option Int} (h : sliceOpA P n ops l i = some (d, A, sz, len, cap, lo, hi, mx)) (hno : mx ≠ none → hi ≠ none) (L H M : Nat)
    (hl : lo.getD 0 = L) (hh : hi.getD len = H) (hm : mx.getD cap = M) (h1 : L ≤ H) (h2 : H ≤ M) (h3 : M ≤ cap) (next : K ((d, .slice (movA A (decide (M = L)) (L * sz)) (H - L) (M - L)) :: l) w) : V1 r n ds P ops Q i l w K := by
  unfold sliceOpA at h
  split at h
  · rename_i _ d' t x lo' hi' mx' ty pos aft gd ho
    split at h
    · rename_i loi hii mxi hlo hhi hmx
      split at h
      · rename_i elem A' len' cap' hu hx
        split at h
        · rename_i sz' hsz
          cases hb : Nat.blt d' n with
          | false => rw [hb] at h; cases h
          | true =>
            rw [hb] at h
            simp only [cond_true, Option.some.injEq, Prod.mk.injEq] at h
            obtain ⟨rfl, rfl, rfl, rfl, rfl, rfl, rfl, rfl⟩ := h
            obtain ⟨inf, hinf, hs⟩ := Option.map_eq_some_iff.1 hsz
            refine V1_value ho rfl hb ?_ next
            simp only [execOp, Instr.sliceAt, Instr.slice, hx, Sem.run_bind, run_underlying' hu, Result.andThen_ok, Sem.run_pure, run_sliceBounds (w := w) (P := P) hlo hhi hmx hno L H M hl hh hm h1 h2 h3, run_sizeOf hinf, hs, add_none, movA]
            cases A' <;> by_cases e : M = L <;> simp [e]
        · cases h
      · cases h
    · cases h
  · cases h
theorem VL_sliceA {d sz len cap : Nat} {A : Option Addr} {lo hi mx : Option Int} (h : sliceOpA P n ops l i = some (d, A, sz, len, cap, lo, hi, mx)) (hi' : Nat.blt i ops.size = true) (hno : mx ≠ none → hi ≠ none) (L H M : Nat)
    (hl : lo.getD 0 = L) (hh : hi.getD len = H) (hm : mx.getD cap = M) (h1 : L ≤ H) (h2 : H ≤ M) (h3 : M ≤ cap) (N : Nat) (hN : H - L = N) (C : Nat) (hC : M - L = C) (next : VL r n ds P ops Q (i + 1) ((d, .slice (movA A (decide (M = L)) (L * sz)) N C) :: l) w) : VL r n ds P ops Q i l w := by
  subst hN; subst hC
  exact VL_of_V1 hi' (V1_sliceA h hno L H M hl hh hm h1 h2 h3 next)
end
end Go.Vc
end

section
/- The rest by a variable. -/
set_option linter.unusedVariables false
set_option linter.unusedSimpArgs false
namespace Go.Vc
open Go.RowKit
section
variable {r : Option Nat} {n : Nat} {ds : List Deferred} {P : Program} {ops : Array Oper} {Q : Exit → Act → World → Prop} {l : List (Nat × Value)} {w : World} {i : Nat} {K : List (Nat × Value) → World → Prop}
end
end Go.Vc
end

section
/- A slice's elements as an array. -/
set_option linter.unusedVariables false
set_option linter.unusedSimpArgs false
namespace Go.Vc
open Go.RowKit
section
variable {r : Option Nat} {n : Nat} {ds : List Deferred} {P : Program} {ops : Array Oper} {Q : Exit → Act → World → Prop} {l : List (Nat × Value)} {w : World} {i : Nat} {K : List (Nat × Value) → World → Prop}
end
end Go.Vc
end

section
/- Slices of a view whose address is of any kind: the result is a view again. -/
set_option linter.unusedVariables false
set_option linter.unusedSimpArgs false
namespace Go.Vc
open Go.RowKit
theorem Sl.mov {w : World} {B L H M sz : Nat} {A : Option Addr} {xs : List Value} (h : Sl w B A xs) (hM : H ≤ M) : Sl w B (movA A (decide (M = L)) (L * sz)) ((xs.drop (L * sz)).take ((H - L) * sz)) := by
  intro h0
  have h1 : 0 < xs.length := by simp at h0; omega
  obtain ⟨b, o, rfl, hb⟩ := h.open h1
  by_cases e : M = L
  · exfalso
    have : H - L = 0 := by omega
    rw [this, Nat.zero_mul, List.take_zero] at h0
    simp at h0
  · have hm : movA (some ⟨b, o, none⟩) (decide (M = L)) (L * sz) = some ⟨b, o + L * sz, none⟩ := by simp [movA, e, add_none]
    rw [hm]
    exact h.sub (L * sz) ((H - L) * sz) h0 |> fun ⟨b', o', hA, hb', hc⟩ => ⟨b', o', hA, hb', hc⟩
section
variable {r : Option Nat} {n : Nat} {ds : List Deferred} {P : Program} {ops : Array Oper} {Q : Exit → Act → World → Prop} {tbl : List (List Nat)} {m : Nat} {l : List (Nat × Value)} {R : World → World → Prop} {ch : List Nat} {w : World} {i : Nat}
theorem VL_sliceV {d sz len cap B : Nat} {A : Option Addr} {xs : List Value} {lo hi mx : Option Int} (h : sliceOpA P n ops l i = some (d, A, sz, len, cap, lo, hi, mx)) (hi' : Nat.blt i ops.size = true) (hno : mx ≠ none → hi ≠ none) (hA : Sl w B A xs) (L H M : Nat)
    (hl : lo.getD 0 = L) (hh : hi.getD len = H) (hm : mx.getD cap = M) (h1 : L ≤ H) (h2 : H ≤ M) (h3 : M ≤ cap) (N : Nat) (hN : H - L = N) (C : Nat) (hC : M - L = C) (ys : List Value) (hy : (xs.drop (L * sz)).take (N * sz) = ys) (next : ∀ A', Sl w B A' ys → VL r n ds P ops Q (i + 1) ((d, .slice A' N C) :: l) w) : VL r n ds P ops Q i l w := by
  subst hN; subst hC; subst hy
  exact VL_sliceA h hi' hno L H M hl hh hm h1 h2 h3 _ rfl _ rfl (next _ (hA.mov h2))
end
theorem iL_takeV {k : IntKind} (bs : List Int) (N : Nat) : ((iL k bs).drop (0 * 1)).take (N * 1) = iL k (bs.take N) := by rw [iL_take, Nat.zero_mul, Nat.mul_one, List.drop_zero]
end Go.Vc
end

section
/- Rows of one's own whose elements have any number of cells; append to them; views whose block lies between two bounds. -/
set_option linter.unusedVariables false
set_option linter.unusedSimpArgs false
namespace Go.Vc
open Go.RowKit
/-- The block at which an address points. -/
def ownB (A : Option Addr) (k : Nat) : Prop := ∃ a, A = some a ∧ a.block = k
def RwS (w : World) (sz base : Nat) (e : TypeId) (A : Option Addr) (n c : Nat) (xs : List Value) : Prop := w.ownsRow base e sz (.slice A n c) n xs
section
variable {F : Nat → Prop} {w w' w0 : World} {B base base' n n' c c' sz : Nat} {e : TypeId} {A : Option Addr} {xs ys : List Value} {P : Program}
theorem RwS.len (h : RwS w sz base e A n c xs) : xs.length = n * sz := h.1
theorem RwS.nil (w : World) (sz base : Nat) (e : TypeId) : RwS w sz base e none 0 0 [] := World.ownsRow_nil w base e sz
theorem RwS.cast (h : RwS w sz base e A n c xs) (hn : n = n') (hx : xs = ys) : RwS w sz base e A n' c ys := by subst hn; subst hx; exact h
/-- What keeps the row's own block keeps the row. -/
theorem RwS.keepO (h : RwS w sz base e A n c xs) (hs : Step F w w') (hF : ∀ k, ownB A k → ¬ F k) : RwS w' sz base e A n c xs := by
  refine ⟨h.1, ?_⟩
  rcases h.2 with hn | ⟨g, cap, cur, hv, hb, hg, rest⟩
  · exact .inl hn
  · refine .inr ⟨g, cap, cur, hv, hb, (hs.block g (Array.getElem?_eq_some_iff.1 hg).1 (hF g ?_)).trans hg, rest⟩
    cases hv
    exact ⟨_, rfl, rfl⟩
theorem RwS.lt (h : RwS w sz base e A n c xs) (k : Nat) (hk : ownB A k) : base ≤ k ∧ k < w.heap.size := by
  obtain ⟨a, rfl, rfl⟩ := hk
  rcases h.2 with ⟨hv, _⟩ | ⟨g, cap, cur, hv, hb, hg, rest⟩
  · cases hv
  · cases hv; exact ⟨hb, (Array.getElem?_eq_some_iff.1 hg).1⟩
theorem RwS.step (h : RwS w sz base e A n c xs) (hs : Step F w w') (hF : ∀ k, base ≤ k → ¬ F k) : RwS w' sz base e A n c xs := h.keepO hs fun k hk => hF k (h.lt k hk).1
theorem RwS.no (h : RwS w sz base e A n c xs) (hs : Step No w w') : RwS w' sz base e A n c xs := h.step hs fun _ _ => id
theorem RwS.low (h : RwS w sz base e A n c xs) (hb : base' ≤ base) : RwS w sz base' e A n c xs := by
  refine ⟨h.1, ?_⟩
  rcases h.2 with hn | ⟨g, cap, cur, hv, hb', rest⟩
  · exact .inl hn
  · exact .inr ⟨g, cap, cur, hv, by omega, rest⟩
theorem RwS.cap (h : RwS w sz base e A n c xs) : n ≤ c := by
  rcases h.2 with ⟨hv, hn⟩ | ⟨g, cap, cur, hv, hb', _, hc, _⟩
  · cases hv; omega
  · cases hv; exact hc
/-- A view whose block lies between two bounds. -/
def Sl2 (w : World) (lo hi : Nat) (A : Option Addr) (xs : List Value) : Prop :=
  0 < xs.length → ∃ b o, A = some ⟨b, o, none⟩ ∧ lo ≤ b ∧ b < hi ∧ ∀ j u, xs[j]? = some u → w.cell? ⟨b, o + j, none⟩ = some u
theorem Sl2.sl {lo hi : Nat} (h : Sl2 w lo hi A xs) : Sl w hi A xs := fun h0 => by
  obtain ⟨b, o, hA, _, hb, hc⟩ := h h0
  exact ⟨b, o, hA, hb, hc⟩
theorem Sl.sl2 {hi : Nat} (h : Sl w hi A xs) : Sl2 w 0 hi A xs := fun h0 => by
  obtain ⟨b, o, hA, hb, hc⟩ := h h0
  exact ⟨b, o, hA, Nat.zero_le _, hb, hc⟩
theorem Sl2.step {lo hi : Nat} (h : Sl2 w lo hi A xs) (hs : Step F w w') (hF : ∀ k, lo ≤ k → k < hi → ¬ F k) : Sl2 w' lo hi A xs := by
  intro h0
  obtain ⟨b, o, hA, h1, h2, hc⟩ := h h0
  exact ⟨b, o, hA, h1, h2, fun j u hu => hs.cell (hF b h1 h2) (hc j u hu)⟩
theorem Sl2.mono {lo hi lo' hi' : Nat} (h : Sl2 w lo hi A xs) (h1 : lo' ≤ lo) (h2 : hi ≤ hi') : Sl2 w lo' hi' A xs := by
  intro h0
  obtain ⟨b, o, hA, h3, h4, hc⟩ := h h0
  exact ⟨b, o, hA, by omega, by omega, hc⟩
theorem RwS.sl2 (h : RwS w sz base e A n c xs) : Sl2 w base w.heap.size A xs := by
  intro h0
  rcases h.2 with ⟨hv, hn⟩ | ⟨g, cap, cur, hv, hb', hg, _, _, _, ht⟩
  · have := h.1; subst hn; rw [Nat.zero_mul] at this; omega
  · cases hv
    refine ⟨g, 0, rfl, hb', (Array.getElem?_eq_some_iff.1 hg).1, fun j u hu => ?_⟩
    rw [Nat.zero_add, (show Own w g cur e from hg).cell]
    rw [← ht, List.getElem?_take] at hu
    split at hu
    · simpa using hu
    · cases hu
theorem RwS.of_row {v : Value} (h : w.ownsRow base e sz v n xs) : ∃ A c, v = .slice A n c ∧ RwS w sz base e A n c xs := by
  rcases h.2 with ⟨hv, hn⟩ | ⟨g, cap, cur, hv, hb', _⟩
  · subst hv; subst hn; exact ⟨none, 0, rfl, h⟩
  · subst hv; exact ⟨_, _, rfl, h⟩
theorem RwS.grown (h : RwS w sz base e A n c xs) (hg : w.grownBy w' (Value.slice A n c).ownBlock) : Step (ownB A) w w' :=
  Step.of_grown hg fun k hk _ => by
    cases A with
    | none => cases hk
    | some a => simp only [Value.ownBlock, Option.some.injEq] at hk; exact ⟨a, rfl, hk⟩
theorem RwS.of_new {g : Nat} {cur : Array Value} (ho : Own w g cur e) (hb : base ≤ g) (hm : n ≤ maxLen) (hs : cur.size = n * sz) : RwS w sz base e (some ⟨g, 0, none⟩) n n cur.toList := by
  refine ⟨by simpa using hs, .inr ⟨g, n, cur, rfl, hb, ho, Nat.le_refl _, hm, hs, ?_⟩⟩
  rw [← hs, ← Array.length_toList, List.take_length]
/-- Rows of two types have two blocks. -/
theorem RwS.apart {sz' base' n' c' : Nat} {e' : TypeId} {A' : Option Addr} {ys : List Value} (h : RwS w sz base e A n c xs) (h' : RwS w sz' base' e' A' n' c' ys) (hne : e ≠ e') (k : Nat) (hk : ownB A k) : ¬ ownB A' k := by
  rintro ⟨a', rfl, rfl⟩
  obtain ⟨a, rfl, hab⟩ := hk
  rcases h.2 with ⟨hv, _⟩ | ⟨g, cap, cur, hv, _, hg, _⟩
  · cases hv
  · rcases h'.2 with ⟨hv', _⟩ | ⟨g', cap', cur', hv', _, hg', _⟩
    · cases hv'
    · cases hv; cases hv'
      simp only at hab
      subst hab
      rw [hg] at hg'
      simp only [Option.some.injEq, Obj.cells.injEq] at hg'
      exact hne hg'.2.1
end
section
variable {r : Option Nat} {n : Nat} {ds : List Deferred} {P : Program} {ops : Array Oper} {Q : Exit → Act → World → Prop} {l : List (Nat × Value)} {w : World} {i : Nat} {K : List (Nat × Value) → World → Prop}
theorem V1_appendZ {d e m c m2 c2 sz bytes : Nat} {A A2 : Option Addr} (h : appOpS P n ops l i = some (d, e, A, m, c, A2, m2, c2)) (hi : appInfo P e = some (sz, bytes)) (base B : Nat) (xs news : List Value) (hown : RwS w sz base e A m c xs)
    (hl : news.length = m2 * sz) (hnews : Sl w B A2 news) (h1 : ∀ u ∈ news, oneC u = true) (h63 : m + m2 ≤ maxLen) (hbytes : (m + m2) * bytes ≤ 140737488355328) (hbase : base ≤ w.heap.size)
    (next : ∀ A' c' w', RwS w' sz base e A' (m + m2) c' (xs ++ news) → Step (ownB A) w w' → K ((d, .slice A' (m + m2) c') :: l) w') : V1 r n ds P ops Q i l w K := by
  unfold appInfo at hi
  split at hi
  · rename_i inf hinf
    split at hi
    · rename_i z hz
      cases hb : Nat.beq z.cells.size inf.size && Nat.blt 0 inf.size with
      | false => rw [hb] at hi; cases hi
      | true =>
        rw [hb] at hi
        simp only [cond_true, Option.some.injEq, Prod.mk.injEq] at hi
        obtain ⟨hsz, hby⟩ := hi
        simp only [Bool.and_eq_true] at hb
        have hzs := Nat.eq_of_beq_eq_true hb.1
        have hszp := blt_spec hb.2
        unfold appOpS at h
        split at h
        · rename_i _ d' ags ts ty pos aft gd ho
          split at h
          · rename_i t t' A0 m0 c0 A20 m20 c20 h0 h1' hv hx
            split at h
            · rename_i e' hu
              cases hq : Nat.blt d' n && Nat.beq t t' && Nat.beq ts.size 2 && Nat.beq ags.size 2 with
              | false => rw [hq] at h; cases h
              | true =>
                rw [hq] at h
                simp only [cond_true, Option.some.injEq, Prod.mk.injEq] at h
                obtain ⟨rfl, rfl, rfl, rfl, rfl, rfl, rfl, rfl⟩ := h
                simp only [Bool.and_eq_true] at hq
                obtain ⟨⟨⟨q1, q2⟩, q3⟩, q4⟩ := hq
                have q2 := Nat.eq_of_beq_eq_true q2
                subst q2
                have hts := arr2 (Nat.eq_of_beq_eq_true q3) h0 h1'
                have has := arr2 (by simpa using Nat.eq_of_beq_eq_true q4) hv hx
                rcases Nat.eq_zero_or_pos m20 with hz0 | hpos
                · subst hz0
                  obtain rfl : news = [] := List.eq_nil_of_length_eq_zero (by rw [hl, Nat.zero_mul])
                  refine V1_value ho rfl q1 ?_ (next A0 c0 w ((by simpa using hown : RwS w sz base e' A0 (m0 + 0) c0 (xs ++ []))) (Step.refl _ _))
                  simp only [execOp, resolve, invoke, builtin, Sem.run_bind, Sem.run_pure, Result.andThen_ok, has, hts, run_append_empty hu hinf A0 A20 m0 c0 c20 hown.cap]
                  rfl
                · obtain ⟨b', o', rfl, _⟩ := hnews.open (by rw [hl]; exact Nat.mul_pos hpos (by omega))
                  obtain ⟨v2, w2, hr, hr1, hr2, _⟩ := run_append_own (P := P) w base t ty e' inf z sz bytes hu hinf hz hsz hby (by rw [hzs, hsz]) (by omega) _ m0 xs hown ⟨b', o', none⟩ m20 c20 news hl (fun j u hj => by rw [add_none]; exact hnews.get j u hj) (fun u hu => oneC_oneCell (h1 u hu)) h63 hbytes hbase
                  obtain ⟨A', c', rfl, hR⟩ := RwS.of_row hr1
                  refine V1_value ho rfl q1 ?_ (next A' c' w2 hR (hown.grown hr2))
                  simp only [execOp, resolve, invoke, builtin, Sem.run_bind, Sem.run_pure, Result.andThen_ok, has, hts, hr]
            · cases h
          · cases h
        · cases h
    · cases hi
  · cases hi
theorem VL_appendZ {d e m c m2 c2 sz bytes : Nat} {A A2 : Option Addr} (h : appOpS P n ops l i = some (d, e, A, m, c, A2, m2, c2)) (hi' : Nat.blt i ops.size = true) (hi : appInfo P e = some (sz, bytes)) (base B : Nat) (xs news : List Value) (hown : RwS w sz base e A m c xs)
    (hl : news.length = m2 * sz) (hnews : Sl w B A2 news) (h1 : ∀ u ∈ news, oneC u = true) (N : Nat) (hN : m + m2 = N) (h63 : N ≤ maxLen) (hbytes : N * bytes ≤ 140737488355328) (hbase : base ≤ w.heap.size)
    (next : ∀ A' c' w', RwS w' sz base e A' N c' (xs ++ news) → Step (ownB A) w w' → VL r n ds P ops Q (i + 1) ((d, .slice A' N c') :: l) w') : VL r n ds P ops Q i l w := by
  subst hN
  exact VL_of_V1 hi' (V1_appendZ h hi base B xs news hown hl hnews h1 h63 hbytes hbase next)
end
section
variable {r : Option Nat} {n : Nat} {ds : List Deferred} {P : Program} {ops : Array Oper} {Q : Exit → Act → World → Prop} {tbl : List (List Nat)} {m : Nat} {l : List (Nat × Value)} {R : World → World → Prop} {ch : List Nat} {w : World}
theorem VTc_appendZ {k d e mm c m2 c2 sz bytes : Nat} {A A2 : Option Addr} {is : List Nat} {kn : List (Nat × Value)} (h : appOpS P n ops (lkn ops tbl m l kn k) k = some (d, e, A, mm, c, A2, m2, c2)) (hd : dstOf ops k = some d) (hi : appInfo P e = some (sz, bytes)) (base B : Nat) (xs news : List Value) (hown : RwS w sz base e A mm c xs)
    (hl : news.length = m2 * sz) (hnews : Sl w B A2 news) (h1 : ∀ u ∈ news, oneC u = true) (N : Nat) (hN : mm + m2 = N) (h63 : N ≤ maxLen) (hbytes : N * bytes ≤ 140737488355328) (hbase : base ≤ w.heap.size)
    (hR : ∀ w1, Step (ownB A) w w1 → R w w1)
    (next : ∀ A' c' w', RwS w' sz base e A' N c' (xs ++ news) → Step (ownB A) w w' → VT r n ds P ops Q tbl m l R ch is ((k, .slice A' N c') :: kn) w') : VTc r n ds P ops Q tbl m l R ch k is kn w := by
  subst hN
  exact V1_appendZ h hi base B xs news hown hl hnews h1 h63 hbytes hbase fun A' c' w' hr hs => ⟨hR w' hs, .inl ⟨_, d, hd, look_head, next A' c' w' hr hs⟩⟩
end
end Go.Vc
end

section
/- The calculus' twenty-second part: an element of an array's value; rows and views of elements of several cells, told by a list. -/
set_option linter.unusedVariables false
set_option linter.unusedSimpArgs false
namespace Go.Vc
open Go.RowKit
section
variable {r : Option Nat} {n : Nat} {ds : List Deferred} {P : Program} {ops : Array Oper} {Q : Exit → Act → World → Prop} {l : List (Nat × Value)} {w : World} {i : Nat} {K : List (Nat × Value) → World → Prop}
def ixAOp (P : Program) (n : Nat) (ops : Array Oper) (l : List (Nat × Value)) (i : Nat) : Option (Nat × TypeId × Nat × Array Value × Int) :=
  match theOp ops l i with
  | some { dst := some d, op := .index t x y, .. } => match P.underlying t, evL l x, evL l y with
    | some (.array len e), .agg cs, .int .i64 m => bif Nat.blt d n then some (d, e, len, cs, m) else none
    | _, _, _ => none
  | _ => none
theorem V1_ixA {d len sz e : Nat} {cs : Array Value} {m : Int} (h : ixAOp P n ops l i = some (d, e, len, cs, m)) (ha : aggB P e = some sz) (j : Nat) (hm : m = (j : Nat)) (hj : j < len) (v : Array Value) (hv : cs.extract (j * sz) (j * sz + sz) = v) (next : K ((d, .agg v) :: l) w) : V1 r n ds P ops Q i l w K := by
  unfold ixAOp at h
  split at h
  · rename_i _ d' t x y ty pos aft gd ho
    split at h
    · rename_i len' e' cs' m' hu hx hy
      cases hb : Nat.blt d' n with
      | false => rw [hb] at h; cases h
      | true =>
        rw [hb] at h
        simp only [cond_true, Option.some.injEq, Prod.mk.injEq] at h
        obtain ⟨rfl, rfl, rfl, rfl, rfl⟩ := h
        refine V1_value ho rfl hb ?_ next
        subst hm; subst hv
        have hi : (P.info? e').map (·.size) = some sz := by
          unfold aggB at ha
          split at ha <;> first | exact ha | cases ha
        obtain ⟨inf, hinf, hsz⟩ := Option.map_eq_some_iff.1 hi
        have h0 : (0 : Int) ≤ (j : Int) ∧ (j : Int) < (len' : Nat) := ⟨by omega, by omega⟩
        simp only [execOp, Instr.index, hx, hy, asIntOf, Sem.run_bind, Sem.run_pure, Result.andThen_ok, run_underlying' hu, h0, and_self, if_true, run_sizeOf hinf, hsz, part, run_isAgg_agg ha, Int.toNat_natCast]
    · cases h
  · cases h
theorem VL_ixA {d len sz e : Nat} {cs : Array Value} {m : Int} (h : ixAOp P n ops l i = some (d, e, len, cs, m)) (hi : Nat.blt i ops.size = true) (ha : aggB P e = some sz) (j : Nat) (hm : m = (j : Nat)) (hj : j < len) (v : Array Value) (hv : cs.extract (j * sz) (j * sz + sz) = v) (next : VL r n ds P ops Q (i + 1) ((d, .agg v) :: l) w) : VL r n ds P ops Q i l w :=
  VL_of_V1 hi (V1_ixA h ha j hm hj v hv next)
end
/-- Elements, side by side: enc: the cells of one. -/
def flat {α : Type} (enc : α → List Value) (xs : List α) : List Value := xs.flatMap enc
section
variable {α : Type} {enc : α → List Value} {sz : Nat}
theorem flat_cons (x : α) (xs : List α) : flat enc (x :: xs) = enc x ++ flat enc xs := rfl
theorem flat_append (xs ys : List α) : flat enc (xs ++ ys) = flat enc xs ++ flat enc ys := by simp [flat]
theorem flat_one (x : α) : flat enc [x] = enc x := by simp [flat]
theorem flat_len (h : ∀ x, (enc x).length = sz) (xs : List α) : (flat enc xs).length = xs.length * sz := by
  induction xs with
  | nil => simp [flat]
  | cons x xs ih => rw [flat_cons, List.length_append, ih, h, List.length_cons, Nat.add_mul, Nat.one_mul, Nat.add_comm]
theorem flat_get (h : ∀ x, (enc x).length = sz) (xs : List α) (i c : Nat) (hc : c < sz) : (flat enc xs)[i * sz + c]? = (xs[i]?).bind fun x => (enc x)[c]? := by
  induction xs generalizing i with
  | nil => simp [flat]
  | cons x xs ih =>
    rw [flat_cons]
    cases i with
    | zero => rw [Nat.zero_mul, Nat.zero_add, List.getElem?_append_left (by rw [h]; exact hc)]; simp
    | succ i =>
      rw [List.getElem?_append_right (by rw [h, Nat.add_mul, Nat.one_mul]; omega), h, show (i + 1) * sz + c - sz = i * sz + c by rw [Nat.add_mul, Nat.one_mul]; omega, ih]
      simp
theorem flat_at (h : ∀ x, (enc x).length = sz) {xs : List α} {i : Nat} {x : α} (hx : xs[i]? = some x) (c : Nat) (hc : c < sz) : (flat enc xs)[i * sz + c]? = (enc x)[c]? := by rw [flat_get h xs i c hc, hx]; rfl
theorem flat_one' (h : ∀ x, ∀ u ∈ enc x, oneC u = true) (xs : List α) : ∀ u ∈ flat enc xs, oneC u = true := by
  intro u hu
  obtain ⟨x, _, hx⟩ := List.mem_flatMap.1 hu
  exact h x u hx
variable {w w' : World} {B : Nat} {A : Option Addr} {P : Program} {t : TypeId}
theorem RwS.keepG {F : Nat → Prop} {base e g n c : Nat} {xs : List Value} (h : RwS w sz base e (some ⟨g, 0, none⟩) n c xs) (hs : Step F w w') (hF : ¬ F g) : RwS w' sz base e (some ⟨g, 0, none⟩) n c xs :=
  h.keepO hs fun k hk => by
    obtain ⟨a, h1, h2⟩ := hk
    cases h1
    rw [← h2]; exact hF
/-- An element that lies in a view: its cells, whole or one by one. -/
theorem Sl.flatAgg {b o : Nat} {xs : List α} (h : Sl w B (some ⟨b, o, none⟩) (flat enc xs)) (hs : ∀ x, (enc x).length = sz) {i : Nat} {x : α} (hx : xs[i]? = some x) (off m : Nat) (ht : aggB P t = some m) (hm : off + m ≤ sz) (o' : Nat) (ho : o' = o + i * sz + off) : Loads P t w ⟨b, o', none⟩ (.agg (((enc x).drop off).take m).toArray) := by
  subst ho
  refine Loads.cells ht _ (by simp [hs]; omega) fun j hj => ?_
  rw [add_none]
  have h1 := flat_at hs hx (off + j) (by omega)
  have hlt : off + j < (enc x).length := by rw [hs]; omega
  rw [List.getElem?_eq_getElem hlt] at h1
  have := h.get _ _ h1
  rw [show o + (i * sz + (off + j)) = o + i * sz + off + j by omega] at this
  rw [this]
  simp [hj, List.getElem?_eq_getElem hlt]
theorem Sl.flatOne {b o : Nat} {xs : List α} (h : Sl w B (some ⟨b, o, none⟩) (flat enc xs)) (hs : ∀ x, (enc x).length = sz) {i : Nat} {x : α} (hx : xs[i]? = some x) (off : Nat) {v : Value} (hv : (enc x)[off]? = some v) (hoff : off < sz) (ht : oneB P t = true) (o' : Nat) (ho : o' = o + i * sz + off) : Loads P t w ⟨b, o', none⟩ v := by
  subst ho
  have h1 := flat_at hs hx off hoff
  rw [hv] at h1
  have := h.get _ _ h1
  refine Loads.one ht ?_
  rw [← this]; congr 2; omega
end
end Go.Vc
end

section
/- The kit's sort, at a table's slots, in the calculus' words. -/
set_option linter.unusedVariables false
set_option linter.unusedSimpArgs false
namespace Go.Proofs.Ythchmlidobgkoaa
open Go.Vc Go.RowKit Go.Sort Go.Shelf
/-- Slots, side by side. -/
abbrev flatS (xs : List Slot) : List Value := flat Slot.cells xs
theorem cells_len (x : Slot) : x.cells.length = 5 := rfl
theorem flatS_len (xs : List Slot) : (flatS xs).length = xs.length * 5 := flat_len cells_len xs
theorem flatS_get (xs : List Slot) (i c : Nat) (hc : c < 5) : (flatS xs)[i * 5 + c]? = (xs[i]?).bind fun x => x.cells[c]? := flat_get cells_len xs i c hc
instance : Inhabited Slot := ⟨noSlot⟩
def lessS (x y : Slot) : Int := cmpK x.p x.v x.c y.p y.v y.c
theorem lessS_lt (x y : Slot) : ltOf lessS x y = befK x.p x.v x.c y.p y.v y.c := by unfold ltOf lessS; exact cmpK_lt ..
theorem lessS_swo : SWO (ltOf lessS) where
  irrefl x := by rw [lessS_lt]; exact befK_false.2 (by omega)
  trans x y z h1 h2 := by
    rw [lessS_lt] at *
    have h1 := befK_iff.1 h1
    have h2 := befK_iff.1 h2
    exact befK_iff.2 (by omega)
  ntrans x y z h1 h2 := by
    rw [lessS_lt] at *
    have h1 := befK_false.1 h1
    have h2 := befK_false.1 h2
    exact befK_false.2 (by omega)
/-- What only lays new blocks, and draws. -/
theorem GR.grow {w w' : World} (h : Step No w w') (hd : w.drawn ≤ w'.drawn) : ∃ q os, w' = grow (w.drewN q) os := by
  refine ⟨w'.drawn - w.drawn, w'.heap.extract w.heap.size w'.heap.size, ?_⟩
  obtain ⟨h1, h2, h3, h4, h5⟩ := h
  obtain ⟨hp, tp, dr, os, out⟩ := w
  obtain ⟨hp', tp', dr', os', out'⟩ := w'
  simp only at h1 h2 h3 h4 h5 hd
  subst h1; subst h2; subst h3
  unfold Go.Sort.grow World.drewN
  simp only [World.mk.injEq, true_and, and_true]
  refine ⟨?_, by omega⟩
  apply Array.ext_getElem?
  intro i
  rw [Array.getElem?_append]
  split
  · rename_i hi; exact h5 i hi id
  · rename_i hi
    rw [Array.getElem?_extract]
    split
    · rename_i hj; congr 1; omega
    · rename_i hj; exact Array.getElem?_eq_none (by omega)
theorem sort_lays (blk off size : Nat) (w : World) : CmpLays Try.prog 44 #[] Slot.cells 5 lessS blk off size w := by
  intro m os dk hdk x y
  refine Calls.mono (less_any x y _) ?_
  rintro e w' ⟨v, rfl, rfl, hs, hd⟩
  exact ⟨rfl, GR.grow hs hd⟩
theorem sort_none (A : Option Addr) (c : Nat) (w : World) : CV Try.prog 43 #[.slice A 0 c, .func (.func 44) #[] #[]] w fun v w1 => v = .tuple #[] ∧ w1 = w := by
  have h := AnyF.slices_SortFunc_none (P := Try.prog) (ρ := Try.sortSlot_ren) Try.sortSlot A c (.func (.func 44) #[] #[]) w
  refine Calls.mono h ?_
  rintro e w' ⟨rfl, rfl⟩
  exact ⟨_, rfl, rfl, rfl⟩
theorem sort_own {w : World} {g n c : Nat} {cur : Array Value} {xs : List Slot} {e : TypeId} (ho : Own w g cur e) (hn : xs.length = n) (hsz : n * 5 ≤ cur.size) (ht : cur.toList.take (n * 5) = flatS xs) (hm : n ≤ 1000) :
    CV Try.prog 43 #[.slice (some ⟨g, 0, none⟩) n c, .func (.func 44) #[] #[]] w fun v w1 => v = .tuple #[] ∧ ∃ ys cur', ys.Perm xs ∧ (∀ i j, i < j → j < n → ∀ x y, ys[i]? = some x → ys[j]? = some y → befK y.p y.v y.c x.p x.v x.c = false) ∧ Own w1 g cur' e ∧ cur'.size = cur.size ∧ cur'.toList.take (n * 5) = flatS ys ∧ Step (Just g) w w1 := by
  have eg : ∀ args w, (callFunc 44 args).run Try.prog w = .ok (.enter 44 args) w := fun args w => Try.call44 args w
  have hH : HoldsK Slot.cells 5 w g 0 xs.toArray := by
    intro j hj
    rw [size_flatK] at hj
    have hj' : j < n * 5 := by simpa [hn] using hj
    rw [get_flatK _ _ _ _ hj]
    refine ⟨?_, ?_⟩
    · rw [Nat.zero_add, ho.cell]
      have h1 : cur.toList[j]? = (flatS xs)[j]? := by rw [← ht, List.getElem?_take, if_pos hj']
      rw [Array.getElem?_toList] at h1
      have h2 := flatS_get xs (j / 5) (j % 5) (Nat.mod_lt _ (by decide))
      rw [show j / 5 * 5 + j % 5 = j by omega] at h2
      rw [h1, h2]
      have hi : j / 5 < xs.length := by omega
      rw [List.getElem?_eq_getElem hi]
      simp only [Option.bind_some, id]
      have e1 : xs.toArray[j / 5]! = xs[j / 5] := by simp [hi]
      rw [e1]
      have h5 : j % 5 < xs[j / 5].cells.length := by rw [cells_len]; exact Nat.mod_lt _ (by decide)
      rw [List.getElem?_eq_getElem h5, getElem!_pos xs[j / 5].cells (j % 5) h5]
    · unfold World.frozen?
      rw [show w.heap[(⟨g, 0 + j, none⟩ : Addr).block]? = some (.cells cur e (0, 0)) from ho]
      simp
  have h := AnyQ.slices_SortFunc (P := Try.prog) (ρ := Try.sortSlot_ren) Try.sortSlot 5 Try.isAgg74 Try.sizeOf74 Slot.cells cells_len (fun x v hv => by simp [Slot.cells] at hv; rcases hv with rfl | rfl | rfl | rfl | rfl <;> rfl) lessS lessS_swo 44 #[] g 0 c xs.toArray w eg (sort_lays g 0 _ w) hH ho.lt (by simp; omega)
  rw [show xs.toArray.size = n by simpa using hn] at h
  refine Calls.mono h ?_
  rintro e' w' ⟨rfl, d', m, os, hp, hs, rfl⟩
  refine ⟨_, rfl, rfl, d'.toList, putCells id 0 (flatK Slot.cells 5 d') cur, ?_, ?_, ?_, ?_, ?_, ?_⟩
  · obtain ⟨p1, _, p3⟩ := hp
    have hd : d'.size = n := by rw [p1]; simpa using hn
    have e1 : d'.extract 0 n = d' := by rw [← hd]; simp
    have e2 : xs.toArray.extract 0 n = xs.toArray := by rw [← hn]; simp
    rw [e1, e2] at p3
    simpa using p3
  · intro i j hij hjn x y hx hy
    have h1 := hs i j (Nat.zero_le _) hij hjn
    have hd : d'.size = n := by rw [hp.1]; simpa using hn
    have ex : d'[i]! = x := by
      rw [Array.getElem?_toList] at hx
      rw [getElem!_pos _ _ (by omega)]
      rw [Array.getElem?_eq_getElem (by omega)] at hx
      exact Option.some.inj hx
    have ey : d'[j]! = y := by
      rw [Array.getElem?_toList] at hy
      rw [getElem!_pos _ _ (by omega)]
      rw [Array.getElem?_eq_getElem (by omega)] at hy
      exact Option.some.inj hy
    rw [ex, ey, lessS_lt] at h1
    exact h1
  · show (grow (putRow id (Sort.ahead w m) g 0 (flatK Slot.cells 5 d')) os).heap[g]? = _
    unfold Go.Sort.grow putRow mapBlock Sort.ahead
    simp only
    rw [Array.getElem?_append_left (by simpa using ho.lt), Array.getElem?_modify, if_pos rfl, show w.heap[g]? = some (.cells cur e (0, 0)) from ho]
    rfl
  · simp [putCells]
  · have hd : d'.size = n := by rw [hp.1]; simpa using hn
    apply List.ext_getElem?
    intro q
    rw [List.getElem?_take]
    by_cases hq : q < n * 5
    · rw [if_pos hq]
      have h2 := flatS_get d'.toList (q / 5) (q % 5) (Nat.mod_lt _ (by decide))
      rw [show q / 5 * 5 + q % 5 = q by omega] at h2
      rw [h2, Array.getElem?_toList, Array.getElem?_toList]
      unfold putCells
      rw [Array.getElem?_mapIdx, Array.getElem?_eq_getElem (by omega)]
      simp only [Option.map_some, id, Nat.sub_zero, Nat.zero_add]
      rw [if_pos ⟨Nat.zero_le _, by rw [size_flatK, hd]; exact hq⟩, get_flatK _ _ _ _ (by rw [hd]; exact hq)]
      have hi : q / 5 < d'.size := by omega
      rw [Array.getElem?_eq_getElem hi]
      simp only [Option.bind_some]
      rw [getElem!_pos d' (q / 5) hi]
      have h5 : q % 5 < d'[q / 5].cells.length := by rw [cells_len]; exact Nat.mod_lt _ (by decide)
      rw [List.getElem?_eq_getElem h5, getElem!_pos d'[q / 5].cells (q % 5) h5]
    · rw [if_neg hq]
      exact (List.getElem?_eq_none (by rw [flatS_len]; simp [hd]; omega)).symm
  · show Step (Just g) w (grow (putRow id (Sort.ahead w m) g 0 (flatK Slot.cells 5 d')) os)
    unfold Go.Sort.grow putRow mapBlock Sort.ahead
    refine ⟨rfl, rfl, rfl, by simp, fun k hk hne => ?_⟩
    simp only
    rw [Array.getElem?_append_left (by simpa using hk), Array.getElem?_modify, if_neg (fun e1 => hne e1.symm)]
end Go.Proofs.Ythchmlidobgkoaa
end

section
/- Blocks apart by the types of their elements. -/
set_option linter.unusedVariables false
set_option linter.unusedSimpArgs false
namespace Go.Vc
open Go.RowKit
def TyB (w : World) (e : TypeId) (k : Nat) : Prop := ∃ c fr, w.heap[k]? = some (.cells c e fr)
/-- Only blocks of one type, from a base on, may have been turned. -/
def StepT (e : TypeId) (base : Nat) (w w' : World) : Prop := Step (fun k => base ≤ k ∧ TyB w e k) w w'
section
variable {F : Nat → Prop} {w w' w'' w0 : World} {B b base base' n n' c c' sz : Nat} {e e' : TypeId} {A : Option Addr} {xs ys : List Value} {P : Program} {cs : Array Value}
theorem TyB.ne {i : Nat} (h : TyB w e i) (ho : Own w b cs e') (hne : e ≠ e') : ¬ i = b := by
  rintro rfl
  obtain ⟨c, fr, h⟩ := h
  rw [ho] at h
  simp only [Option.some.injEq, Obj.cells.injEq] at h
  exact hne h.2.1.symm
theorem RwS.tyB (h : RwS w sz base e A n c xs) {i : Nat} (hi : ownB A i) : TyB w e i := by
  obtain ⟨a, rfl, rfl⟩ := hi
  rcases h.2 with ⟨hv, _⟩ | ⟨g, cap, cur, hv, _, hg, _⟩
  · cases hv
  · cases hv; exact ⟨_, _, hg⟩
theorem StepT.refl (e : TypeId) (base : Nat) (w : World) : StepT e base w w := Step.refl _ _
theorem StepT.size (h : StepT e base w w') : w.heap.size ≤ w'.heap.size := Step.size h
theorem StepT.trans (h : StepT e base w w') (k : StepT e base w' w'') : StepT e base w w'' :=
  ⟨k.os.trans h.os, k.tape.trans h.tape, k.output.trans h.output, Nat.le_trans h.size k.size, fun i hi hF => by
    have h1 := Step.block h i hi hF
    refine (Step.block k i (Nat.lt_of_lt_of_le hi h.size) fun ⟨h2, c, fr, h3⟩ => hF ⟨h2, c, fr, ?_⟩).trans h1
    rw [← h1]; exact h3⟩
theorem StepT.no (h : StepT e base w w') (k : Step No w' w'') : StepT e base w w'' := Step.trans h k.weak
/-- A step at new blocks. -/
theorem StepT.new (h : StepT e base w w') (k : Step F w' w'') (hF : ∀ i, F i → w.heap.size ≤ i) : StepT e base w w'' :=
  Step.transNew h k fun i hi hG => absurd (hF i hG) (by omega)
theorem StepT.low (h : StepT e base w w') (hb : base' ≤ base) : StepT e base' w w' := Step.mono h fun i hi => ⟨by omega, hi.2⟩
theorem StepT.old (h : StepT e base w w') (hb : w.heap.size ≤ base) : Step No w w' := ⟨h.os, h.tape, h.output, h.size, fun i hi _ => Step.block h i hi fun hF => by omega⟩
/-- All of a row lies below a bound. -/
def UbA (A : Option Addr) (H : Nat) : Prop := ∀ k, ownB A k → k < H
theorem RwS.ub (h : RwS w sz base e A n c xs) : UbA A w.heap.size := fun k hk => (h.lt k hk).2
theorem Rw.ub (h : Rw w base e A n c xs) : UbA A w.heap.size := RwS.ub h
theorem RwS.stepU {H : Nat} (h : RwS w sz base e A n c xs) (hu : UbA A H) (hs : Step F w w') (hF : ∀ k, base ≤ k → k < H → ¬ F k) : RwS w' sz base e A n c xs := h.keepO hs fun k hk => hF k (h.lt k hk).1 (hu k hk)
theorem Rw.stepU {H : Nat} (h : Rw w base e A n c xs) (hu : UbA A H) (hs : Step F w w') (hF : ∀ k, base ≤ k → k < H → ¬ F k) : Rw w' base e A n c xs := RwS.stepU h hu hs hF
end
section
variable {r : Option Nat} {n : Nat} {ds : List Deferred} {P : Program} {ops : Array Oper} {Q : Exit → Act → World → Prop} {tbl : List (List Nat)} {m : Nat} {l : List (Nat × Value)} {R : World → World → Prop} {ch : List Nat} {w : World} {i : Nat}
end
end Go.Vc
end

section
/- The calculus: blocks' types, rows whose block is told. -/
set_option linter.unusedVariables false
set_option linter.unusedSimpArgs false
namespace Go.Vc
open Go.RowKit
theorem RwS.open {w : World} {base n c sz : Nat} {e : TypeId} {A : Option Addr} {xs : List Value} (h : RwS w sz base e A n c xs) (h0 : 0 < n) : ∃ g cur, A = some ⟨g, 0, none⟩ ∧ base ≤ g ∧ g < w.heap.size ∧ Own w g cur e ∧ cur.size = c * sz ∧ n ≤ c ∧ c ≤ maxLen ∧ cur.toList.take (n * sz) = xs := by
  rcases h.2 with ⟨hv, hn⟩ | ⟨g, cap, cur, hv, hb', hg, hc, hm, hs, ht⟩
  · omega
  · cases hv
    exact ⟨g, cur, rfl, hb', (Array.getElem?_eq_some_iff.1 hg).1, hg, hs, hc, hm, ht⟩
theorem RwS.of_own {w : World} {base n c sz g : Nat} {e : TypeId} {cur : Array Value} {xs : List Value} (ho : Own w g cur e) (hb : base ≤ g) (hs : cur.size = c * sz) (hn : n ≤ c) (hm : c ≤ maxLen) (ht : cur.toList.take (n * sz) = xs) : RwS w sz base e (some ⟨g, 0, none⟩) n c xs := by
  refine ⟨?_, .inr ⟨g, c, cur, rfl, hb, ho, hn, hm, hs, ht⟩⟩
  rw [← ht, List.length_take, Array.length_toList, hs]
  exact Nat.min_eq_left (Nat.mul_le_mul_right sz hn)
/-! ### A row whose block is told -/
structure RowE (w : World) (rb : Nat) (T : TypeId) (xs : List Value) : Prop where
  sl : Sl2 w rb (rb + 1) (some ⟨rb, 0, none⟩) xs
  ty : TyB w T rb
section
variable {w w' : World} {F : Nat → Prop}
theorem TyB.lt {T : TypeId} {k : Nat} (h : TyB w T k) : k < w.heap.size := by obtain ⟨c, fr, h⟩ := h; exact (Array.getElem?_eq_some_iff.1 h).1
theorem TyB.step {T : TypeId} {k : Nat} (h : TyB w T k) (hs : Step F w w') (hF : ¬ F k) : TyB w' T k := by have hl := h.lt; obtain ⟨c, fr, h⟩ := h; exact ⟨c, fr, (hs.block k hl hF).trans h⟩
theorem TyB.two {T T' : TypeId} {k : Nat} (h : TyB w T k) (h' : TyB w T' k) : T = T' := by
  obtain ⟨c, fr, h⟩ := h
  obtain ⟨c', fr', h'⟩ := h'
  rw [h] at h'
  simp only [Option.some.injEq, Obj.cells.injEq] at h'
  exact h'.2.1
theorem Own.tyB {b : Nat} {cs : Array Value} {T : TypeId} (h : Own w b cs T) : TyB w T b := ⟨cs, (0, 0), h⟩
theorem RowE.step {rb : Nat} {T : TypeId} {xs : List Value} (h : RowE w rb T xs) (hs : Step F w w') (hF : ¬ F rb) : RowE w' rb T xs :=
  ⟨h.sl.step hs fun k h1 h2 hk => hF (by rwa [show k = rb by omega] at hk), h.ty.step hs hF⟩
theorem RowE.no {rb : Nat} {T : TypeId} {xs : List Value} (h : RowE w rb T xs) (hs : Step No w w') : RowE w' rb T xs := h.step hs id
theorem RowE.lt {rb : Nat} {T : TypeId} {xs : List Value} (h : RowE w rb T xs) : rb < w.heap.size := h.ty.lt
theorem RowE.of_rw {sz base n c : Nat} {e : TypeId} {A : Option Addr} {xs : List Value} (h : RwS w sz base e A n c xs) (hn : 0 < n) : ∃ rb, A = some ⟨rb, 0, none⟩ ∧ base ≤ rb ∧ RowE w rb e xs := by
  rcases h.2 with ⟨hv, h0⟩ | ⟨g, cap, cur, hv, hb, hg, hr⟩
  · omega
  · cases hv
    refine ⟨g, rfl, hb, ⟨fun h0 => ?_, ⟨_, _, hg⟩⟩⟩
    obtain ⟨b, o, he, hb1, hb2, hc⟩ := (RwS.sl2 h) h0
    simp only [Option.some.injEq, Addr.mk.injEq] at he
    obtain ⟨rfl, rfl, _⟩ := he
    exact ⟨g, 0, rfl, Nat.le_refl _, Nat.lt_succ_self _, hc⟩

end
end Go.Vc
end

section
/- Package conns: what is told of a table is its list, in order. -/
set_option linter.unusedVariables false
set_option linter.unusedSimpArgs false
namespace Go.Proofs.Ythchmlidobgkoaa
open Go.Vc Go.RowKit
def usedK (s : Nat → Slot) (k : Nat) : List Slot := ((List.range k).filter fun i => (s i).used).map s
theorem usedK_yes {s : Nat → Slot} {k : Nat} (h : (s k).used = true) : usedK s (k + 1) = usedK s k ++ [s k] := by
  unfold usedK
  rw [List.range_succ, List.filter_append, List.map_append]
  simp [h]
theorem usedK_no {s : Nat → Slot} {k : Nat} (h : (s k).used = false) : usedK s (k + 1) = usedK s k := by
  unfold usedK
  rw [List.range_succ, List.filter_append, List.map_append]
  simp [h]
theorem usedK_len (s : Nat → Slot) (k : Nat) : (usedK s k).length ≤ k := by
  unfold usedK
  rw [List.length_map]
  exact Nat.le_trans (List.length_filter_le _ _) (by simp)
theorem cells_one (x : Slot) : ∀ u ∈ x.cells, oneC u = true := by
  intro u hu
  simp only [Slot.cells, List.mem_cons, List.mem_nil_iff, or_false] at hu
  rcases hu with rfl | rfl | rfl | rfl | rfl <;> rfl
theorem sort_row {w : World} {base n c : Nat} {A : Option Addr} {xs : List Slot} {e : TypeId} (hr : RwS w 5 base e A n c (flat Slot.cells xs)) (hn : xs.length = n) (hm : n ≤ 1000) :
    CV Try.prog 43 #[.slice A n c, .func (.func 44) #[] #[]] w fun v w1 => v = .tuple #[] ∧ ∃ ys, ys.Perm xs ∧ (∀ i j, i < j → j < n → ∀ x y, ys[i]? = some x → ys[j]? = some y → befK y.p y.v y.c x.p x.v x.c = false) ∧ RwS w1 5 base e A n c (flat Slot.cells ys) ∧ Step (fun k => base ≤ k) w w1 := by
  by_cases h0 : n = 0
  · subst h0
    have : xs = [] := List.eq_nil_of_length_eq_zero hn
    subst this
    refine CV.mono (sort_none A c w) ?_
    rintro v w1 ⟨rfl, rfl⟩
    exact ⟨rfl, [], List.Perm.refl _, fun i j h1 h2 => by omega, hr, Step.refl _ _⟩
  · obtain ⟨g, cur, rfl, hb, hg, ho, hs, hc, hmx, ht⟩ := hr.open (by omega)
    refine CV.mono (sort_own (c := c) ho hn (by rw [hs]; exact Nat.mul_le_mul_right 5 hc) ht hm) ?_
    rintro v w1 ⟨rfl, ys, cur', h1, h2, h3, h4, h5, h6⟩
    exact ⟨rfl, ys, h1, h2, RwS.of_own h3 hb (by rw [h4, hs]) hc hmx h5, h6.mono fun i (hi : i = g) => by rw [hi]; exact hb⟩
/-- What is used, sorted, is the list. -/
theorem sorted_is {s : Nat → Slot} {len room : Int} {L : List Ent} (hT : TabI s len room L) {ys : List Slot} (hp : ys.Perm (usedK s 128)) (hs : ∀ i j, i < j → j < (usedK s 128).length → ∀ x y, ys[i]? = some x → ys[j]? = some y → befK y.p y.v y.c x.p x.v x.c = false) : ys = L.map Ent.slot := by
  have hu : ∀ x ∈ ys, x.used = true ∧ ∃ i, i < 128 ∧ s i = x := by
    intro x hx
    obtain ⟨i, hi, rfl⟩ := List.mem_map.1 (hp.mem_iff.1 hx)
    have := List.mem_filter.1 hi
    exact ⟨this.2, i, List.mem_range.1 this.1, rfl⟩
  have hlen := hp.length_eq
  -- distinct keys
  have hnd : (usedK s 128).Pairwise fun x y => ¬ (x.p = y.p ∧ x.v = y.v ∧ x.c = y.c) := by
    unfold usedK
    rw [List.pairwise_map]
    refine List.Pairwise.imp_of_mem ?_ (List.nodup_iff_pairwise_ne.1 (List.Pairwise.filter _ List.nodup_range))
    intro i j hi hj hne ⟨h1, h2, h3⟩
    have hi := List.mem_filter.1 hi
    have hj := List.mem_filter.1 hj
    exact hne (hT.inv.apart i j (List.mem_range.1 hi.1) (List.mem_range.1 hj.1) hi.2 hj.2 h1 h2 h3)
  have hnd2 : ys.Pairwise fun x y => ¬ (x.p = y.p ∧ x.v = y.v ∧ x.c = y.c) := (hp.symm.pairwise_iff (fun h ⟨h1, h2, h3⟩ => h ⟨h1.symm, h2.symm, h3.symm⟩)).1 hnd
  have hsrt : SrtE (ys.map Slot.ent) := by
    unfold SrtE
    rw [List.pairwise_map]
    rw [List.pairwise_iff_getElem] at hnd2 ⊢
    intro i j hi hj hij
    have h1 := hs i j hij (by omega) ys[i] ys[j] (List.getElem?_eq_getElem hi) (List.getElem?_eq_getElem hj)
    have h2 := hnd2 i j hi hj hij
    exact befE_total (x := ys[j].ent) (y := ys[i].ent) (fun ⟨a, b, c⟩ => h2 ⟨a.symm, b.symm, c.symm⟩) h1
  have hM : ys.map Slot.ent = L := by
    refine srt_ext hsrt hT.srt fun x => ?_
    rw [hT.mem]
    constructor
    · intro hx
      obtain ⟨y, hy, rfl⟩ := List.mem_map.1 hx
      obtain ⟨h1, i, hi, h2⟩ := hu y hy
      rw [slot_ent h1]
      exact ⟨h1, i, hi, h2⟩
    · rintro ⟨h1, i, hi, h2⟩
      refine List.mem_map.2 ⟨x.slot, hp.mem_iff.2 (List.mem_map.2 ⟨i, List.mem_filter.2 ⟨List.mem_range.2 hi, by rw [h2]; rfl⟩, h2⟩), rfl⟩
  rw [← hM, List.map_map]
  conv => lhs; rw [← List.map_id ys]
  refine List.map_congr_left fun x hx => ?_
  exact (slot_ent (hu x hx).1).symm
/-- What is handed on, entry by entry. -/
def entV (L : List Ent) : List (Array Value) := L.map fun x => #[.agg #[.int .i64 x.p, .int .i64 x.v, .int .i64 x.c], .int .i64 x.n]
theorem entV_get {L : List Ent} {k : Nat} {x : Ent} (h : L[k]? = some x) : (entV L)[k]? = some #[.agg #[.int .i64 x.p, .int .i64 x.v, .int .i64 x.c], .int .i64 x.n] := by
  unfold entV; rw [List.getElem?_map, h]; rfl
theorem entV_inv {L : List Ent} {k : Nat} {args : Array Value} (h : (entV L)[k]? = some args) : ∃ x, L[k]? = some x ∧ args = #[.agg #[.int .i64 x.p, .int .i64 x.v, .int .i64 x.c], .int .i64 x.n] := by
  unfold entV at h
  rw [List.getElem?_map] at h
  obtain ⟨x, h1, h2⟩ := Option.map_eq_some_iff.1 h
  exact ⟨x, h1, h2.symm⟩
theorem entV_len (L : List Ent) : (entV L).length = L.length := by simp [entV]
theorem encT_slots (s : Nat → Slot) (len room : Int) (k : Nat) (hk : k < 128) : ((encT s len room).extract 0 640).extract (k * 5) (k * 5 + 5) = (s k).cells.toArray := by
  rw [← encT_all s len room k hk]
  apply Array.ext_getElem?
  intro j
  simp only [Array.getElem?_extract, Array.size_extract, encT_size]
  by_cases hj : j < 5
  · rw [if_pos (by omega), if_pos (by omega), if_pos (by omega)]
    congr 1; omega
  · rw [if_neg (by omega), if_neg (by omega)]
theorem Loads.slots {w : World} {b : Nat} {s : Nat → Slot} {len room : Int} {T : TypeId} {P : Program} {t : TypeId} (ho : Own w b (encT s len room) T) (ht : aggB P t = some 640) : Loads P t w ⟨b, 0, none⟩ (.agg ((encT s len room).extract 0 640)) := by
  refine Loads.cells ht _ (by simp [encT_size]) fun j hj => ?_
  rw [add_none, ho.cell, Nat.zero_add, Array.getElem?_extract, encT_size, if_pos (by omega), Nat.zero_add]
end Go.Proofs.Ythchmlidobgkoaa
end

section
/- Layer 9: All. -/
set_option linter.unusedVariables false
set_option linter.unusedSimpArgs false
namespace Go.Proofs.Ythchmlidobgkoaa
open Go.Vc Go.RowKit

set_option maxRecDepth 100000 in
set_option maxHeartbeats 4000000 in
theorem all1_any (Lb B b : Nat) (s : Nat → Slot) (len room : Int) (LL : List Ent) (hT : TabI s len room LL) (w : World) (J Jx : Nat → Nat → World → Prop) (hJn : ∀ M k W W', J M k W → Step No W W' → J M k W') (hB : Own w B #[.pointer (some ⟨b, 0, none⟩)] 49) (ht : Own w b (encT s len room) 77) (h0 : ∀ M W, w.heap.size ≤ M → M ≤ W.heap.size → Step No w W → J M 0 W) (hy : ∀ M k W args, w.heap.size ≤ M → M ≤ W.heap.size → (entV LL)[k]? = some args → J M k W → YV Try.prog Lb args W fun v W' => Step (fun i => i < w.heap.size ∨ M ≤ i) W W' ∧ (v = .bool true ∧ J M (k + 1) W' ∨ v = .bool false ∧ Jx M (k + 1) W')) :
  CV Try.prog 42 #[.func (.yield Lb) #[] #[], .pointer (some ⟨B, 0, none⟩)] w (fun _ w1 => ∃ M, w.heap.size ≤ M ∧ (J M (entV LL).length w1 ∨ ∃ k, k ≤ (entV LL).length ∧ Jx M k w1)) := by
 have hS : Step No w w := Step.refl _ _
 refine CV_enter Try.f42 _ 40 [(0, .func (.yield Lb) #[] #[]), (1, .pointer (some ⟨B, 0, none⟩))] Try.func42 rfl rfl (by kernel_rfl) rfl ?_
 refine VC_seq ?_
 refine VC_seq ?_
 refine VC_region ?_
 refine VL_load (d := 8) (t := 49) (a := ⟨B, 0, none⟩) (v := .pointer (some ⟨b, 0, none⟩)) (by kernel_rfl) (by kernel_rfl) (Loads.own1 hB (by kernel_rfl) (by rfl)) ?_
 refine VL_pure 2 [0, 1, 9] [(0, .func (.yield Lb) #[] #[]), (1, .pointer (some ⟨B, 0, none⟩)), (9, .bool false)] (by kernel_rfl) rfl ?_
 refine VL_end (by kernel_rfl) ?_
 refine VQ_next ?_
 refine VC_false (by kernel_rfl) ?_
 refine VC_skip ?_
 refine VQ_next ?_
 refine VC_seq ?_
 refine VC_region ?_
 refine VL_pure 1 [0, 1, 3] [(0, .func (.yield Lb) #[] #[]), (1, .pointer (some ⟨B, 0, none⟩)), (3, .slice none 0 0)] (by kernel_rfl) rfl ?_
 refine VL_end (by kernel_rfl) ?_
 refine VQ_next ?_
 refine VC_seq ?_
 refine VC_seq ?_
 refine VC_region ?_
 refine VL_load (d := 10) (t := 49) (a := ⟨B, 0, none⟩) (v := .pointer (some ⟨b, 0, none⟩)) (by kernel_rfl) (by kernel_rfl) (Loads.own1 hB (by kernel_rfl) (by rfl)) ?_
 refine VL_pure 3 [0, 3, 12] [(0, .func (.yield Lb) #[] #[]), (3, .slice none 0 0), (12, .pointer (some ⟨b, 0, none⟩))] (by kernel_rfl) rfl ?_
 refine VL_load (d := 13) (t := 75) (a := ⟨b, 0, none⟩) (v := .agg ((encT s len room).extract 0 640)) (by kernel_rfl) (by kernel_rfl) (Loads.slots ht (by kernel_rfl)) ?_
 refine VL_pure 5 [0, 3, 13, 14] [(0, .func (.yield Lb) #[] #[]), (3, .slice none 0 0), (13, .agg ((encT s len room).extract 0 640)), (14, .int .i64 0)] (by kernel_rfl) rfl ?_
 refine VL_end (by kernel_rfl) ?_
 refine VQ_next ?_
 refine VC_block ?_
 refine VC_loop (σ := Nat × (Option Addr) × Nat × Nat) (fun σs => [(0, .func (.yield Lb) #[] #[]), (13, .agg ((encT s len room).extract 0 640)), (14, .int .i64 ((σs.1 : Nat) : Int)), (3, .slice σs.2.1 σs.2.2.1 σs.2.2.2)]) (fun σs wr => σs.1 ≤ 128 ∧ (usedK s σs.1).length = σs.2.2.1 ∧ RwS wr 5 w.heap.size 74 σs.2.1 σs.2.2.1 σs.2.2.2 (flat Slot.cells (usedK s σs.1)) ∧ Step No w wr) (fun σs wr => 128 - σs.1) ⟨0, none, 0, 0⟩ ⟨rfl, rfl, rfl, rfl, trivial⟩ ?_ ?_
 ·exact ⟨by omega, rfl, RwS.nil _ _ _ _, hS⟩
 rintro ⟨k, A, n, c⟩ wr ⟨hk, hn, hr, hS⟩
 try dsimp only at hk hn hr hS ⊢
 have hu9 := usedK_len s k
 have hzS := hS.size
 refine VC_seq ?_
 refine VC_region ?_
 refine VL_pure 1 [0, 13, 14, 3, 15] [(0, .func (.yield Lb) #[] #[]), (13, .agg ((encT s len room).extract 0 640)), (14, .int .i64 ((k : Nat) : Int)), (3, .slice A n c), (15, .bool (decide (((k : Nat) : Int) < 128)))] (by kernel_rfl) rfl ?_
 refine VL_end (by kernel_rfl) ?_
 refine VQ_next ?_
 refine VC_seq ?_
 refine VC_dec (((k : Nat) : Int) < 128) (by kernel_rfl) (fun h1 => ?_) (fun h1 => ?_)
 ·refine VC_skip ?_
  refine VQ_next ?_
  refine VC_seq ?_
  refine VC_block ?_
  refine VC_seq ?_
  have hub9 := hr.ub
  refine VC_region ?_
  refine VL_ixA (d := 16) (e := 74) (len := 128) (sz := 5) (by kernel_rfl) (by kernel_rfl) (by kernel_rfl) k rfl (by omega) _ (encT_slots s len room k (by omega)) ?_
  refine VL_keep [0, 13, 14, 3, 15, 16] [(0, .func (.yield Lb) #[] #[]), (13, .agg ((encT s len room).extract 0 640)), (14, .int .i64 ((k : Nat) : Int)), (3, .slice A n c), (15, .bool (decide (((k : Nat) : Int) < 128))), (16, .agg #[.int .i64 ((s k).p), .int .i64 ((s k).v), .int .i64 ((s k).c), .int .i64 ((s k).n), .bool ((s k).used)])] (by kernel_rfl) ?_
  have hzs1 := hS.size
  refine VL_box (d := 5) (t := 74) (c := #[.int .i64 0, .int .i64 0, .int .i64 0, .int .i64 0, .bool false]) (by kernel_rfl) (by kernel_rfl) ?_
  intro b1 w1 hn1
  replace hS := Step.trans hS (hn1.step No)
  replace hr := hr.no (hn1.step No)
  have ho1 := hn1.own
  have hzhn1 := hn1.size
  have hqhn1 := hn1.eqb
  refine VL_store (b := b1) (o := 0) (vs := [.int .i64 ((s k).p), .int .i64 ((s k).v), .int .i64 ((s k).c), .int .i64 ((s k).n), .bool ((s k).used)]) (by kernel_rfl) (by kernel_rfl) ho1 (Nat.le_of_ble_eq_true (by kernel_rfl)) ?_
  intro w2 hw1
  replace hS := Step.transNew hS hw1.step (fun _ _ _ => by omega)
  replace hr := hr.stepU hub9 hw1.step (fun k hk1 hk2 (hF : k = b1) => by omega)
  have ho2 : Own w2 b1 #[.int .i64 ((s k).p), .int .i64 ((s k).v), .int .i64 ((s k).c), .int .i64 ((s k).n), .bool ((s k).used)] 74 := Own.cast hw1.own (by kernel_rfl)
  have hzhw1 := hw1.same
  refine VL_end (by kernel_rfl) ?_
  refine VQ_next ?_
  refine VC_seq ?_
  refine VC_region ?_
  refine VL_pure 1 [0, 13, 14, 3, 5, 17] [(0, .func (.yield Lb) #[] #[]), (13, .agg ((encT s len room).extract 0 640)), (14, .int .i64 ((k : Nat) : Int)), (3, .slice A n c), (5, .pointer (some ⟨b1, 0, none⟩)), (17, .pointer (some ⟨b1, 4, none⟩))] (by kernel_rfl) rfl ?_
  refine VL_load (d := 18) (t := 4) (a := ⟨b1, 4, none⟩) (v := .bool ((s k).used)) (by kernel_rfl) (by kernel_rfl) (Loads.own1 ho2 (by kernel_rfl) (by rfl)) ?_
  refine VL_end (by kernel_rfl) ?_
  refine VQ_next ?_
  refine VC_cond ((s k).used) (by kernel_rfl) (fun h2 => ?_) (fun h2 => ?_)
  ·try simp only [Bool.and_eq_true, Bool.or_eq_true, decide_eq_true_eq, Bool.not_eq_true', decide_eq_false_iff_not, Bool.and_eq_false_iff, Bool.or_eq_false_iff, beq_iff_eq, bne_iff_ne, beq_eq_false_iff_ne, bne_eq_false_iff_eq, Bool.not_eq_eq_eq_not, Bool.not_true, Bool.not_false] at h2
   refine VC_region ?_
   refine VL_pure 1 [0, 13, 14, 5, 19] [(0, .func (.yield Lb) #[] #[]), (13, .agg ((encT s len room).extract 0 640)), (14, .int .i64 ((k : Nat) : Int)), (5, .pointer (some ⟨b1, 0, none⟩)), (19, .slice A n c)] (by kernel_rfl) rfl ?_
   refine VL_load (d := 20) (t := 74) (a := ⟨b1, 0, none⟩) (v := .agg #[.int .i64 ((s k).p), .int .i64 ((s k).v), .int .i64 ((s k).c), .int .i64 ((s k).n), .bool ((s k).used)]) (by kernel_rfl) (by kernel_rfl) (Loads.ownL ho2 (n := 5) (by kernel_rfl) (by kernel_rfl) (by kernel_rfl)) ?_
   have hzs2 := hS.size
   have hzl1 := ho2.lt
   refine VL_bs (d := 21) (e := 74) (c := #[.int .i64 ((s k).p), .int .i64 ((s k).v), .int .i64 ((s k).c), .int .i64 ((s k).n), .bool ((s k).used)]) (len := 1) (by kernel_rfl) (by kernel_rfl) ?_
   intro b2 w3 hn2
   replace hS := Step.trans hS (hn2.step No)
   replace hr := hr.no (hn2.step No)
   replace ho2 := ho2.no (hn2.step No)
   have ho3 := hn2.own
   have hzhn2 := hn2.size
   have hqhn2 := hn2.eqb
   have hzs3 := hS.size
   have hzl2 := ho2.lt
   have hzl3 := ho3.lt
   refine VL_appendZ (d := 22) (e := 74) (A := A) (m := n) (c := c) (A2 := (some ⟨b2, 0, none⟩)) (m2 := 1) (c2 := 1) (sz := 5) (bytes := 40) (by kernel_rfl) (by kernel_rfl) (by kernel_rfl) w.heap.size w3.heap.size (flat Slot.cells (usedK s k)) (flat Slot.cells [(s k)]) hr (by rw [flat_one, cells_len]) (Sl.mono (Sl.cast (Own.sl ho3 ho3.lt) (by first | rfl | simp [flat])) (by first | exact Nat.le_refl _ | omega)) (flat_one' cells_one _) (n + 1) (by omega) (by simp only [maxLen]; omega) (by omega) (by omega) ?_
   intro A1 c1 w4 hr1 hg1
   replace hr1 : RwS w4 5 w.heap.size 74 A1 (n + 1) c1 (flat Slot.cells ((usedK s k) ++ ([(s k)]))) := RwS.cast hr1 rfl (by simp only [flat_append, flat_one, List.append_assoc, List.nil_append, List.append_nil, show flat Slot.cells [] = [] from rfl])
   replace hg1 := Step.mono (G := fun k => w.heap.size ≤ k) hg1 (fun i hi => (RwS.lt hr i hi).1)
   have hzhg1 := hg1.size
   replace hS := Step.transNew hS hg1 (fun i hi hG => by (try simp only at hG); omega)
   have hlhr1 : ((usedK s k) ++ ([(s k)])).length = n + 1 := by have hq9 := RwS.len hr1; rw [flat_len cells_len] at hq9; omega
   refine VL_pure 5 [0, 13, 14, 3] [(0, .func (.yield Lb) #[] #[]), (13, .agg ((encT s len room).extract 0 640)), (14, .int .i64 ((k : Nat) : Int)), (3, .slice A1 (n + 1) c1)] (by kernel_rfl) rfl ?_
   refine VL_end (by kernel_rfl) ?_
   refine VQ_block_normal ?_
   refine VQ_next ?_
   refine VC_region ?_
   refine VL_pure 1 [0, 13, 3, 23] [(0, .func (.yield Lb) #[] #[]), (13, .agg ((encT s len room).extract 0 640)), (3, .slice A1 (n + 1) c1), (23, .int .i64 (IntKind.wrap .i64 (((k : Nat) : Int) + 1)))] (by kernel_rfl) rfl ?_
   have he1 : IntKind.wrap .i64 (((k : Nat) : Int) + 1) = ((k + 1 : Nat) : Int) := (by rw [wrap_i64 _ (by omega) (by omega)]; omega)
   refine VL_eq [(0, .func (.yield Lb) #[] #[]), (13, .agg ((encT s len room).extract 0 640)), (3, .slice A1 (n + 1) c1), (23, .int .i64 ((k + 1 : Nat) : Int))] (by rw [he1]) ?_
   refine VL_pure 2 [0, 13, 3, 14] [(0, .func (.yield Lb) #[] #[]), (13, .agg ((encT s len room).extract 0 640)), (3, .slice A1 (n + 1) c1), (14, .int .i64 ((k + 1 : Nat) : Int))] (by kernel_rfl) rfl ?_
   refine VL_end (by kernel_rfl) ?_
   refine VQ_again ⟨k + 1, A1, n + 1, c1⟩ ⟨rfl, rfl, rfl, rfl, trivial⟩ ?_ ?_
   ·exact ⟨by omega, by rw [usedK_yes h2]; exact hlhr1, RwS.cast hr1 rfl (by rw [usedK_yes h2]), hS⟩
   ·(try dsimp only); omega
  ·try simp only [Bool.and_eq_true, Bool.or_eq_true, decide_eq_true_eq, Bool.not_eq_true', decide_eq_false_iff_not, Bool.and_eq_false_iff, Bool.or_eq_false_iff, beq_iff_eq, bne_iff_ne, beq_eq_false_iff_ne, bne_eq_false_iff_eq, Bool.not_eq_eq_eq_not, Bool.not_true, Bool.not_false] at h2
   refine VC_skip ?_
   refine VQ_block_normal ?_
   refine VQ_next ?_
   refine VC_region ?_
   refine VL_pure 1 [0, 13, 3, 23] [(0, .func (.yield Lb) #[] #[]), (13, .agg ((encT s len room).extract 0 640)), (3, .slice A n c), (23, .int .i64 (IntKind.wrap .i64 (((k : Nat) : Int) + 1)))] (by kernel_rfl) rfl ?_
   have he2 : IntKind.wrap .i64 (((k : Nat) : Int) + 1) = ((k + 1 : Nat) : Int) := (by rw [wrap_i64 _ (by omega) (by omega)]; omega)
   refine VL_eq [(0, .func (.yield Lb) #[] #[]), (13, .agg ((encT s len room).extract 0 640)), (3, .slice A n c), (23, .int .i64 ((k + 1 : Nat) : Int))] (by rw [he2]) ?_
   refine VL_pure 2 [0, 13, 3, 14] [(0, .func (.yield Lb) #[] #[]), (13, .agg ((encT s len room).extract 0 640)), (3, .slice A n c), (14, .int .i64 ((k + 1 : Nat) : Int))] (by kernel_rfl) rfl ?_
   refine VL_end (by kernel_rfl) ?_
   have hu8 : (s k).used = false := by simpa using h2
   refine VQ_again ⟨k + 1, A, n, c⟩ ⟨rfl, rfl, rfl, rfl, trivial⟩ ?_ ?_
   ·exact ⟨by omega, by rw [usedK_no hu8]; exact hn, RwS.cast hr rfl (by rw [usedK_no hu8]), hS⟩
   ·(try dsimp only); omega
 ·refine VC_exit ?_
  refine VQ_then_exit ?_
  refine VQ_then_exit ?_
  refine VQ_block_hit ?_
  refine VQ_next ?_
  refine VC_seq ?_
  have hk128 : k = 128 := by omega
  refine VC_region ?_
  refine VL_pure 1 [0, 3, 24] [(0, .func (.yield Lb) #[] #[]), (3, .slice A n c), (24, .slice A n c)] (by kernel_rfl) rfl ?_
  have hzs4 := hS.size
  refine VL_call (d := 25) (f := 43) (by kernel_rfl) (by kernel_rfl) (by kernel_rfl) Try.call43 (sort_row hr hn (by have h9 := usedK_len s k; omega)) ?_
  rintro _ w5 ⟨rfl, ys, hys1, hys2, hr2, hc1⟩
  have hzhc1 := (hc1).size
  replace hS := Step.transNew hS hc1 (fun i hi hG => by (try simp only at hG); omega)
  have hlL := hys1.length_eq.trans hn
  have hys : ys = LL.map Ent.slot := sorted_is hT (by rw [← hk128]; exact hys1) (fun i j h1 h2 => hys2 i j h1 (by rw [← hk128, hn] at h2; exact h2))
  subst hys
  refine VL_end (by kernel_rfl) ?_
  refine VQ_next ?_
  refine VC_seq ?_
  refine VC_region ?_
  refine VL_pure 3 [0, 26, 27, 28] [(0, .func (.yield Lb) #[] #[]), (26, .slice A n c), (27, .int .i64 ((n : Nat) : Int)), (28, .int .i64 0)] (by kernel_rfl) rfl ?_
  refine VL_end (by kernel_rfl) ?_
  refine VQ_next ?_
  refine VC_block ?_
  obtain ⟨M, hMe⟩ : ∃ M, M = w5.heap.size := ⟨_, rfl⟩
  have hM0 : w.heap.size ≤ M := by rw [hMe]; exact hS.size
  have hJ : J M 0 w5 := h0 M _ hM0 (Nat.le_of_eq hMe) hS
  have hv2 : Sl2 w5 w.heap.size M A (flat Slot.cells (LL.map Ent.slot)) := by rw [hMe]; exact RwS.sl2 hr2
  refine VC_loop (σ := Nat) (fun σs => [(0, .func (.yield Lb) #[] #[]), (26, .slice A n c), (27, .int .i64 ((n : Nat) : Int)), (28, .int .i64 ((σs : Nat) : Int))]) (fun σs wr => σs ≤ n ∧ J M σs wr ∧ M ≤ wr.heap.size ∧ Sl2 wr w.heap.size M A (flat Slot.cells (LL.map Ent.slot))) (fun σs wr => n - σs) 0 ⟨rfl, rfl, rfl, rfl, trivial⟩ ?_ ?_
  ·exact ⟨by omega, hJ, Nat.le_of_eq hMe, hv2⟩
  rintro j wr ⟨hj, hJ, hMz, hv2⟩
  try dsimp only at hj hJ hMz hv2 ⊢
  have hS2 : Step No wr wr := Step.refl _ _
  refine VC_seq ?_
  refine VC_region ?_
  refine VL_pure 1 [0, 26, 27, 28, 29] [(0, .func (.yield Lb) #[] #[]), (26, .slice A n c), (27, .int .i64 ((n : Nat) : Int)), (28, .int .i64 ((j : Nat) : Int)), (29, .bool (decide (((j : Nat) : Int) < ((n : Nat) : Int))))] (by kernel_rfl) rfl ?_
  refine VL_end (by kernel_rfl) ?_
  refine VQ_next ?_
  refine VC_seq ?_
  refine VC_dec (((j : Nat) : Int) < ((n : Nat) : Int)) (by kernel_rfl) (fun h3 => ?_) (fun h3 => ?_)
  ·refine VC_skip ?_
   refine VQ_next ?_
   refine VC_seq ?_
   refine VC_block ?_
   refine VC_seq ?_
   refine VC_region ?_
   obtain ⟨sb1, so1, rfl, hlbsb1⟩ := (Sl2.sl hv2).open (by rw [flat_len cells_len]; have hq9 : (LL.map Ent.slot).length = n := hlL; omega)
   refine VL_index (d := 30) (b := sb1) (o := so1) (len := n) (sz := 5) (m := ((j : Nat) : Int)) (by kernel_rfl) (by kernel_rfl) j (by rfl) (by omega) (so1 + j * 5) (by omega) ?_
   obtain ⟨y1, hy1⟩ : ∃ x, LL[j]? = some x := ⟨_, List.getElem?_eq_getElem (by have hq9 := hlL; rw [List.length_map] at hq9; omega)⟩
   refine VL_load (d := 31) (t := 74) (a := ⟨sb1, so1 + j * 5, none⟩) (v := .agg #[.int .i64 y1.p, .int .i64 y1.v, .int .i64 y1.c, .int .i64 y1.n, .bool true]) (by kernel_rfl) (by kernel_rfl) (Sl.flatAgg (sz := 5) (Sl2.sl hv2) cells_len (by rw [List.getElem?_map, hy1]; rfl) 0 5 (by kernel_rfl) (by decide) _ (by first | rfl | omega)) ?_
   have hzs5 := hS2.size
   have hzk1 := hMz
   refine VL_box (d := 7) (t := 74) (c := #[.int .i64 0, .int .i64 0, .int .i64 0, .int .i64 0, .bool false]) (by kernel_rfl) (by kernel_rfl) ?_
   intro b3 w6 hn3
   replace hS2 := Step.trans hS2 (hn3.step No)
   replace hMz := Nat.le_trans hMz (hn3.step No).size
   replace hv2 := hv2.step (hn3.step No) (fun k hk1 hk2 hF => hF)
   have ho4 := hn3.own
   have hzhn3 := hn3.size
   have hqhn3 := hn3.eqb
   refine VL_store (b := b3) (o := 0) (vs := [.int .i64 y1.p, .int .i64 y1.v, .int .i64 y1.c, .int .i64 y1.n, .bool true]) (by kernel_rfl) (by kernel_rfl) ho4 (Nat.le_of_ble_eq_true (by kernel_rfl)) ?_
   intro w7 hw2
   replace hS2 := Step.transNew hS2 hw2.step (fun _ _ _ => by omega)
   replace hMz := Nat.le_trans hMz (hw2.step).size
   replace hv2 := hv2.step hw2.step (fun k hk1 hk2 (hF : k = b3) => by omega)
   have ho5 : Own w7 b3 #[.int .i64 y1.p, .int .i64 y1.v, .int .i64 y1.c, .int .i64 y1.n, .bool true] 74 := Own.cast hw2.own (by kernel_rfl)
   have hzhw2 := hw2.same
   refine VL_end (by kernel_rfl) ?_
   refine VQ_next ?_
   refine VC_seq ?_
   refine VC_region ?_
   refine VL_pure 2 [0, 26, 27, 28, 7, 32, 33] [(0, .func (.yield Lb) #[] #[]), (26, .slice (some ⟨sb1, so1, none⟩) n c), (27, .int .i64 ((n : Nat) : Int)), (28, .int .i64 ((j : Nat) : Int)), (7, .pointer (some ⟨b3, 0, none⟩)), (32, .func (.yield Lb) #[] #[]), (33, .pointer (some ⟨b3, 0, none⟩))] (by kernel_rfl) rfl ?_
   refine VL_load (d := 34) (t := 28) (a := ⟨b3, 0, none⟩) (v := .agg #[.int .i64 y1.p, .int .i64 y1.v, .int .i64 y1.c]) (by kernel_rfl) (by kernel_rfl) (Loads.ownL ho5 (n := 3) (by kernel_rfl) (by kernel_rfl) (by kernel_rfl)) ?_
   refine VL_pure 4 [0, 26, 27, 28, 32, 34, 35] [(0, .func (.yield Lb) #[] #[]), (26, .slice (some ⟨sb1, so1, none⟩) n c), (27, .int .i64 ((n : Nat) : Int)), (28, .int .i64 ((j : Nat) : Int)), (32, .func (.yield Lb) #[] #[]), (34, .agg #[.int .i64 y1.p, .int .i64 y1.v, .int .i64 y1.c]), (35, .pointer (some ⟨b3, 3, none⟩))] (by kernel_rfl) rfl ?_
   refine VL_load (d := 36) (t := 3) (a := ⟨b3, 3, none⟩) (v := .int .i64 y1.n) (by kernel_rfl) (by kernel_rfl) (Loads.own1 ho5 (by kernel_rfl) (by rfl)) ?_
   have hzs6 := hS2.size
   have hzk2 := hMz
   have hzl4 := ho5.lt
   refine VL_yield (d := 37) (L := Lb) (args := #[.agg #[.int .i64 y1.p, .int .i64 y1.v, .int .i64 y1.c], .int .i64 y1.n]) (by kernel_rfl) (by kernel_rfl) (by kernel_rfl) (hy M j _ _ hM0 hMz (entV_get hy1) (hJn _ _ _ _ hJ hS2)) ?_
   rintro _ w8 ⟨hshy1, (⟨rfl, hy1⟩ | ⟨rfl, hy1⟩)⟩
   ·replace hMz := Nat.le_trans hMz hshy1.size
    have hJ := hy1
    replace hv2 := hv2.step hshy1 (fun k hk1 hk2 hG => by (try simp only at hG); omega)
    refine VL_pure 7 [0, 26, 27, 28, 38] [(0, .func (.yield Lb) #[] #[]), (26, .slice (some ⟨sb1, so1, none⟩) n c), (27, .int .i64 ((n : Nat) : Int)), (28, .int .i64 ((j : Nat) : Int)), (38, .bool false)] (by kernel_rfl) rfl ?_
    refine VL_end (by kernel_rfl) ?_
    refine VQ_next ?_
    refine VC_false (by kernel_rfl) ?_
    refine VC_skip ?_
    refine VQ_block_normal ?_
    refine VQ_next ?_
    refine VC_region ?_
    refine VL_pure 1 [0, 26, 27, 39] [(0, .func (.yield Lb) #[] #[]), (26, .slice (some ⟨sb1, so1, none⟩) n c), (27, .int .i64 ((n : Nat) : Int)), (39, .int .i64 (IntKind.wrap .i64 (((j : Nat) : Int) + 1)))] (by kernel_rfl) rfl ?_
    have he3 : IntKind.wrap .i64 (((j : Nat) : Int) + 1) = ((j + 1 : Nat) : Int) := (by rw [wrap_i64 _ (by omega) (by omega)]; omega)
    refine VL_eq [(0, .func (.yield Lb) #[] #[]), (26, .slice (some ⟨sb1, so1, none⟩) n c), (27, .int .i64 ((n : Nat) : Int)), (39, .int .i64 ((j + 1 : Nat) : Int))] (by rw [he3]) ?_
    refine VL_pure 2 [0, 26, 27, 28] [(0, .func (.yield Lb) #[] #[]), (26, .slice (some ⟨sb1, so1, none⟩) n c), (27, .int .i64 ((n : Nat) : Int)), (28, .int .i64 ((j + 1 : Nat) : Int))] (by kernel_rfl) rfl ?_
    refine VL_end (by kernel_rfl) ?_
    refine VQ_again (j + 1) ⟨rfl, rfl, rfl, rfl, trivial⟩ ?_ ?_
    ·exact ⟨by omega, hJ, hMz, hv2⟩
    ·(try dsimp only); omega
   ·refine VL_pure 7 [0, 26, 27, 28, 38] [(0, .func (.yield Lb) #[] #[]), (26, .slice (some ⟨sb1, so1, none⟩) n c), (27, .int .i64 ((n : Nat) : Int)), (28, .int .i64 ((j : Nat) : Int)), (38, .bool true)] (by kernel_rfl) rfl ?_
    refine VL_end (by kernel_rfl) ?_
    refine VQ_next ?_
    refine VC_true (by kernel_rfl) ?_
    refine VC_ret ?_
    refine VQ_block_ret ?_
    refine VQ_then_ret ?_
    refine VQ_then_ret ?_
    refine VQ_block_ret ?_
    refine VQ_ret0 (.inr rfl) rfl ?_
    exact ⟨M, hM0, .inr ⟨_, by rw [entV_len]; have hq9 := hlL; rw [List.length_map] at hq9; omega, hy1⟩⟩
  ·refine VC_exit ?_
   refine VQ_then_exit ?_
   refine VQ_then_exit ?_
   refine VQ_block_hit ?_
   refine VQ_ret0 (.inl rfl) rfl ?_
   have hjn : j = (entV LL).length := by rw [entV_len]; have hq9 := hlL; rw [List.length_map] at hq9; omega
   exact ⟨M, hM0, .inl (by rw [← hjn]; exact hJ)⟩

set_option maxRecDepth 100000 in
set_option maxHeartbeats 4000000 in
theorem all_any (b : Nat) (w : World) :
  CV Try.prog 26 #[.pointer (some ⟨b, 0, none⟩)] w (fun x w1 => ∃ B, x = .func (.func 42) #[] #[.pointer (some ⟨B, 0, none⟩)] ∧ ¬ B < w.heap.size ∧ Own w1 B #[.pointer (some ⟨b, 0, none⟩)] 49 ∧ Step No w w1) := by
 have hS : Step No w w := Step.refl _ _
 refine CV_enter Try.f26 _ 4 [(0, .pointer (some ⟨b, 0, none⟩))] Try.func26 rfl rfl (by kernel_rfl) rfl ?_
 refine VC_seq ?_
 refine VC_region ?_
 have hzs1 := hS.size
 refine VL_box (d := 1) (t := 49) (c := #[.pointer (some ⟨b, 0, none⟩)]) (by kernel_rfl) (by kernel_rfl) ?_
 intro b1 w1 hn1
 replace hS := Step.trans hS (hn1.step No)
 have ho1 := hn1.own
 have hzhn1 := hn1.size
 have hqhn1 := hn1.eqb
 refine VL_pure 2 [1] [(1, .pointer (some ⟨b1, 0, none⟩))] (by kernel_rfl) rfl ?_
 refine VL_end (by kernel_rfl) ?_
 refine VQ_next ?_
 refine VC_seq ?_
 refine VC_region ?_
 refine VL_pure 2 [2] [(2, .func (.func 42) #[] #[.pointer (some ⟨b1, 0, none⟩)])] (by kernel_rfl) rfl ?_
 refine VL_end (by kernel_rfl) ?_
 refine VQ_next ?_
 refine VC_ret ?_
 refine VQ_ret1 (.func (.func 42) #[] #[.pointer (some ⟨b1, 0, none⟩)]) (.inr rfl) rfl rfl ?_
 exact ⟨b1, rfl, by omega, ho1, hS⟩

end Go.Proofs.Ythchmlidobgkoaa
end

section
/- Layer 9: Drop. -/
set_option linter.unusedVariables false
set_option linter.unusedSimpArgs false
namespace Go.Proofs.Ythchmlidobgkoaa
open Go.Vc Go.RowKit

theorem there_of {s : Nat → Slot} {len room : Int} {L : List Ent} (h : TabI s len room L) {p v c n : Int} (hl : lookE L p v c = some n) : (s (findN s p v c)).used = true := by
  have h9 : val s p v c = some n := by rw [h.val]; exact hl
  have h8 : there s p v c = true := by rw [val_there, h9]; rfl
  exact h8
set_option maxRecDepth 100000 in
set_option maxHeartbeats 4000000 in
theorem drop_any (b : Nat) (s : Nat → Slot) (len room : Int) (L : List Ent) (p v c : Int) (w : World) (ht : Own w b (encT s len room) 77) (hT : TabI s len room L) :
  CV Try.prog 39 #[.pointer (some ⟨b, 0, none⟩), .agg #[.int .i64 p, .int .i64 v, .int .i64 c]] w (fun x w1 => ∃ s', x = .tuple #[.int .i64 ((lookE L p v c).getD 0), .bool (lookE L p v c).isSome] ∧ Own w1 b (encT s' ((delE L p v c).length : Int) room) 77 ∧ TabI s' ((delE L p v c).length : Int) room (delE L p v c) ∧ Step (Just b) w w1) := by
 have hS : Step (Just b) w w := Step.refl _ _
 obtain ⟨e, he, hu⟩ := hT.inv.unused
 have hfi := findN_lt s p v c
 have hl0 := hT.len
 have hl1 := hT.inv.fits
 have hl2 := hT.inv.cap
 have hbl := ht.lt
 refine CV_enter Try.f39 _ 69 [(0, .pointer (some ⟨b, 0, none⟩)), (1, .agg #[.int .i64 p, .int .i64 v, .int .i64 c])] Try.func39 rfl rfl (by kernel_rfl) rfl ?_
 refine VC_seq ?_
 refine VC_region ?_
 have hzs1 := hS.size
 have hzl1 := ht.lt
 refine VL_box (d := 3) (t := 28) (c := #[.int .i64 p, .int .i64 v, .int .i64 c]) (by kernel_rfl) (by kernel_rfl) ?_
 intro b1 w1 hn1
 replace hS := Step.trans hS (Step.weak (hn1.step No))
 replace ht := ht.no (hn1.step No)
 have ho1 := hn1.own
 have hzhn1 := hn1.size
 have hqhn1 := hn1.eqb
 refine VL_pure 3 [0, 3] [(0, .pointer (some ⟨b, 0, none⟩)), (3, .pointer (some ⟨b1, 0, none⟩))] (by kernel_rfl) rfl ?_
 refine VL_end (by kernel_rfl) ?_
 refine VQ_next ?_
 refine VC_seq ?_
 refine VC_region ?_
 refine VL_pure 1 [0, 3, 11] [(0, .pointer (some ⟨b, 0, none⟩)), (3, .pointer (some ⟨b1, 0, none⟩)), (11, .pointer (some ⟨b, 0, none⟩))] (by kernel_rfl) rfl ?_
 refine VL_load (d := 12) (t := 28) (a := ⟨b1, 0, none⟩) (v := .agg #[.int .i64 p, .int .i64 v, .int .i64 c]) (by kernel_rfl) (by kernel_rfl) (Loads.ownL ho1 (n := 3) (by kernel_rfl) (by kernel_rfl) (by kernel_rfl)) ?_
 have hzs2 := hS.size
 have hzl2 := ht.lt
 have hzl3 := ho1.lt
 refine VL_call (d := 13) (f := 36) (args := #[.pointer (some ⟨b, 0, none⟩), .agg #[.int .i64 p, .int .i64 v, .int .i64 c]]) (by kernel_rfl) (by kernel_rfl) (by kernel_rfl) Try.call36 (get_tabL p v c ht hT) ?_
 rintro _ w2 ⟨rfl, hc1⟩
 replace hS := Step.trans hS (Step.weak hc1)
 replace ht := ht.no hc1
 replace ho1 := ho1.no hc1
 refine VL_pure 8 [0, 3, 6, 7] [(0, .pointer (some ⟨b, 0, none⟩)), (3, .pointer (some ⟨b1, 0, none⟩)), (6, .int .i64 ((lookE L p v c).getD 0)), (7, .bool ((lookE L p v c).isSome))] (by kernel_rfl) rfl ?_
 refine VL_end (by kernel_rfl) ?_
 refine VQ_next ?_
 refine VC_seq ?_
 refine VC_seq ?_
 refine VC_region ?_
 refine VL_pure 2 [0, 3, 6, 17] [(0, .pointer (some ⟨b, 0, none⟩)), (3, .pointer (some ⟨b1, 0, none⟩)), (6, .int .i64 ((lookE L p v c).getD 0)), (17, .bool (!((lookE L p v c).isSome)))] (by kernel_rfl) rfl ?_
 refine VL_end (by kernel_rfl) ?_
 refine VQ_next ?_
 refine VC_cond (!((lookE L p v c).isSome)) (by kernel_rfl) (fun h1 => ?_) (fun h1 => ?_)
 ·try simp only [Bool.and_eq_true, Bool.or_eq_true, decide_eq_true_eq, Bool.not_eq_true', decide_eq_false_iff_not, Bool.and_eq_false_iff, Bool.or_eq_false_iff, beq_iff_eq, bne_iff_ne, beq_eq_false_iff_ne, bne_eq_false_iff_eq, Bool.not_eq_eq_eq_not, Bool.not_true, Bool.not_false] at h1
  refine VC_seq ?_
  refine VC_region ?_
  refine VL_pure 2 [4, 5] [(4, .int .i64 0), (5, .bool false)] (by kernel_rfl) rfl ?_
  refine VL_end (by kernel_rfl) ?_
  refine VQ_next ?_
  refine VC_ret ?_
  refine VQ_then_ret ?_
  refine VQ_ret2 (.int .i64 0) (.bool false) (.inr rfl) rfl rfl rfl ?_
  exact ⟨s, by rw [show lookE L p v c = none by simpa using h1]; rfl, Own.cast ht (by rw [delE_none (by simpa using h1), ← hT.len]), by rw [delE_none (by simpa using h1), ← hT.len]; exact hT, hS⟩
 ·try simp only [Bool.and_eq_true, Bool.or_eq_true, decide_eq_true_eq, Bool.not_eq_true', decide_eq_false_iff_not, Bool.and_eq_false_iff, Bool.or_eq_false_iff, beq_iff_eq, bne_iff_ne, beq_eq_false_iff_ne, bne_eq_false_iff_eq, Bool.not_eq_eq_eq_not, Bool.not_true, Bool.not_false] at h1
  refine VC_skip ?_
  refine VQ_next ?_
  refine VC_seq ?_
  obtain ⟨nn, hnn⟩ : ∃ n, lookE L p v c = some n := Option.isSome_iff_exists.1 (by simpa using h1)
  have hfu : (s (findN s p v c)).used = true := there_of hT hnn
  obtain ⟨hd0, hk0, hk1⟩ := hT.dropI he hu hfi hfu
  refine VC_region ?_
  refine VL_pure 1 [0, 3, 6, 18] [(0, .pointer (some ⟨b, 0, none⟩)), (3, .pointer (some ⟨b1, 0, none⟩)), (6, .int .i64 ((lookE L p v c).getD 0)), (18, .pointer (some ⟨b, 0, none⟩))] (by kernel_rfl) rfl ?_
  refine VL_load (d := 19) (t := 28) (a := ⟨b1, 0, none⟩) (v := .agg #[.int .i64 p, .int .i64 v, .int .i64 c]) (by kernel_rfl) (by kernel_rfl) (Loads.ownL ho1 (n := 3) (by kernel_rfl) (by kernel_rfl) (by kernel_rfl)) ?_
  have hzs3 := hS.size
  have hzl4 := ht.lt
  have hzl5 := ho1.lt
  refine VL_call (d := 20) (f := 47) (by kernel_rfl) (by kernel_rfl) (by kernel_rfl) Try.call47 (find_at p v c ht he hu) ?_
  rintro _ w3 ⟨rfl, hc2⟩
  replace hS := Step.trans hS (Step.weak hc2)
  replace ht := ht.no hc2
  replace ho1 := ho1.no hc2
  refine VL_pure 4 [0, 6, 8] [(0, .pointer (some ⟨b, 0, none⟩)), (6, .int .i64 ((lookE L p v c).getD 0)), (8, .int .i64 ((findN s p v c : Nat) : Int))] (by kernel_rfl) rfl ?_
  refine VL_end (by kernel_rfl) ?_
  refine VQ_next ?_
  refine VC_seq ?_
  refine VC_region ?_
  refine VL_pure 5 [0, 6, 8, 22, 23, 25] [(0, .pointer (some ⟨b, 0, none⟩)), (6, .int .i64 ((lookE L p v c).getD 0)), (8, .int .i64 ((findN s p v c : Nat) : Int)), (22, .int .i64 ((findN s p v c : Nat) : Int)), (23, .agg #[.int .i64 0, .int .i64 0, .int .i64 0, .int .i64 0, .bool false]), (25, .pointer (some ⟨b, 0, none⟩))] (by kernel_rfl) rfl ?_
  refine VL_index (d := 26) (b := b) (o := 0) (len := 128) (sz := 5) (m := ((findN s p v c : Nat) : Int)) (by kernel_rfl) (by kernel_rfl) (findN s p v c) (by rfl) (by first | exact hfi | exact hat | exact findN_lt _ _ _ _ | omega) ((findN s p v c) * 5) (by omega) ?_
  refine VL_store (b := b) (o := (findN s p v c) * 5) (vs := [.int .i64 0, .int .i64 0, .int .i64 0, .int .i64 0, .bool false]) (by kernel_rfl) (by kernel_rfl) ht (by rw [encT_size]; show _ + 5 ≤ _; omega) ?_
  intro w4 hw1
  replace hS := Step.trans hS (Step.mono hw1.step (by intro i hi; first | exact hi | exact ⟨_, by assumption, hi⟩ | (have hi9 : i = b := hi; (first | show _ ∨ _ | show _ = _); omega)))
  replace ho1 := ho1.step hw1.step (show ¬ b1 = b by omega)
  have ho2 : Own w4 b (encT (setS s (findN s p v c) ⟨0, 0, 0, 0, false⟩) len room) 77 := Own.cast hw1.own (setRow_slot s len room (findN s p v c) (by first | exact hfi | exact hat | exact findN_lt _ _ _ _ | omega) ⟨0, 0, 0, 0, false⟩)
  have hzhw1 := hw1.same
  refine VL_end (by kernel_rfl) ?_
  refine VQ_next ?_
  refine VC_seq ?_
  refine VC_region ?_
  refine VL_pure 3 [0, 6, 8, 27, 29] [(0, .pointer (some ⟨b, 0, none⟩)), (6, .int .i64 ((lookE L p v c).getD 0)), (8, .int .i64 ((findN s p v c : Nat) : Int)), (27, .pointer (some ⟨b, 0, none⟩)), (29, .pointer (some ⟨b, 640, none⟩))] (by kernel_rfl) rfl ?_
  refine VL_load (d := 30) (t := 3) (a := ⟨b, 640, none⟩) (v := .int .i64 len) (by kernel_rfl) (by kernel_rfl) (Loads.own1 ho2 (by kernel_rfl) (encT_len (setS s (findN s p v c) ⟨0, 0, 0, 0, false⟩) len room)) ?_
  refine VL_pure 7 [0, 6, 8, 31, 33] [(0, .pointer (some ⟨b, 0, none⟩)), (6, .int .i64 ((lookE L p v c).getD 0)), (8, .int .i64 ((findN s p v c : Nat) : Int)), (31, .int .i64 (IntKind.wrap .i64 (len - 1))), (33, .pointer (some ⟨b, 640, none⟩))] (by kernel_rfl) rfl ?_
  refine VL_keep [0, 6, 8, 31, 33] [(0, .pointer (some ⟨b, 0, none⟩)), (6, .int .i64 ((lookE L p v c).getD 0)), (8, .int .i64 ((findN s p v c : Nat) : Int)), (31, .int .i64 (IntKind.wrap .i64 (len - 1))), (33, .pointer (some ⟨b, 640, none⟩))] (by kernel_rfl) ?_
  refine VL_eq [(0, .pointer (some ⟨b, 0, none⟩)), (6, .int .i64 ((lookE L p v c).getD 0)), (8, .int .i64 ((findN s p v c : Nat) : Int)), (31, .int .i64 (len - 1)), (33, .pointer (some ⟨b, 640, none⟩))] (by rw [wrap_i64 (len - 1) (by omega) (by omega)]) ?_
  refine VL_store (b := b) (o := 640) (vs := [.int .i64 (len - 1)]) (by kernel_rfl) (by kernel_rfl) ho2 (by rw [encT_size]; exact Nat.le_of_ble_eq_true (by kernel_rfl)) ?_
  intro w5 hw2
  replace hS := Step.trans hS (Step.mono hw2.step (by intro i hi; first | exact hi | exact ⟨_, by assumption, hi⟩ | (have hi9 : i = b := hi; (first | show _ ∨ _ | show _ = _); omega)))
  replace ho1 := ho1.step hw2.step (show ¬ b1 = b by omega)
  have ho3 : Own w5 b (encT (setS s (findN s p v c) ⟨0, 0, 0, 0, false⟩) (len - 1) room) 77 := Own.cast hw2.own (setRow_len _ _ _ _)
  have hzhw2 := hw2.same
  refine VL_end (by kernel_rfl) ?_
  refine VQ_next ?_
  refine VC_seq ?_
  refine VC_seq ?_
  refine VC_region ?_
  refine VL_pure 3 [0, 6, 36] [(0, .pointer (some ⟨b, 0, none⟩)), (6, .int .i64 ((lookE L p v c).getD 0)), (36, .int .i64 ((IntKind.wrap .i64 (((findN s p v c : Nat) : Int) + 1)).tmod 128))] (by kernel_rfl) rfl ?_
  refine VL_keep [0, 6, 36] [(0, .pointer (some ⟨b, 0, none⟩)), (6, .int .i64 ((lookE L p v c).getD 0)), (36, .int .i64 ((IntKind.wrap .i64 (((findN s p v c : Nat) : Int) + 1)).tmod 128))] (by kernel_rfl) ?_
  refine VL_eq [(0, .pointer (some ⟨b, 0, none⟩)), (6, .int .i64 ((lookE L p v c).getD 0)), (36, .int .i64 ((atE e (offE e (findN s p v c) + 1) : Nat) : Int))] (by rw [wrap_i64 _ (by omega) (by omega), ← hk1]; exact congrArg _ (by rw [Int.tmod_eq_emod_of_nonneg (by omega)]; rfl)) ?_
  refine VL_pure 4 [0, 6, 8] [(0, .pointer (some ⟨b, 0, none⟩)), (6, .int .i64 ((lookE L p v c).getD 0)), (8, .int .i64 ((atE e (offE e (findN s p v c) + 1) : Nat) : Int))] (by kernel_rfl) rfl ?_
  refine VL_end (by kernel_rfl) ?_
  refine VQ_next ?_
  refine VC_block ?_
  refine VC_loop (σ := Nat × (Nat → Slot)) (fun σs => [(0, .pointer (some ⟨b, 0, none⟩)), (6, .int .i64 ((lookE L p v c).getD 0)), (8, .int .i64 ((atE e σs.1 : Nat) : Int))]) (fun σs wr => σs.1 ≤ 128 ∧ DropI σs.2 e σs.1 ∧ (∀ x, HasS σs.2 x ↔ HasS (setS s (findN s p v c) noSlot) x) ∧ Step (Just b) w wr ∧ Own wr b (encT σs.2 (len - 1) room) 77) (fun σs wr => 128 - σs.1) ⟨(offE e (findN s p v c) + 1), (setS s (findN s p v c) noSlot)⟩ ⟨rfl, rfl, rfl, trivial⟩ ?_ ?_
  ·exact ⟨by omega, hd0, fun _ => Iff.rfl, hS, ho3⟩
  rintro ⟨k, s1⟩ wr ⟨hk, hd, hm, hS, ht⟩
  try dsimp only at hk hd hm hS ht ⊢
  have hat := atE_lt e k
  refine VC_seq ?_
  refine VC_seq ?_
  refine VC_region ?_
  refine VL_pure 4 [0, 6, 8, 38, 40] [(0, .pointer (some ⟨b, 0, none⟩)), (6, .int .i64 ((lookE L p v c).getD 0)), (8, .int .i64 ((atE e k : Nat) : Int)), (38, .int .i64 ((atE e k : Nat) : Int)), (40, .pointer (some ⟨b, 0, none⟩))] (by kernel_rfl) rfl ?_
  refine VL_index (d := 41) (b := b) (o := 0) (len := 128) (sz := 5) (m := ((atE e k : Nat) : Int)) (by kernel_rfl) (by kernel_rfl) (atE e k) (by rfl) (by first | exact hfi | exact hat | exact findN_lt _ _ _ _ | omega) ((atE e k) * 5) (by omega) ?_
  refine VL_pure 6 [0, 6, 8, 42] [(0, .pointer (some ⟨b, 0, none⟩)), (6, .int .i64 ((lookE L p v c).getD 0)), (8, .int .i64 ((atE e k : Nat) : Int)), (42, .pointer (some ⟨b, (atE e k) * 5 + 4, none⟩))] (by kernel_rfl) rfl ?_
  refine VL_load (d := 43) (t := 4) (a := ⟨b, (atE e k) * 5 + 4, none⟩) (v := .bool ((s1 (atE e k)).used)) (by kernel_rfl) (by kernel_rfl) (Loads.own1 ht (by kernel_rfl) (encT_used s1 (len - 1) room (atE e k) (by first | exact hfi | exact hat | exact findN_lt _ _ _ _ | omega))) ?_
  refine VL_end (by kernel_rfl) ?_
  refine VQ_next ?_
  refine VC_cond ((s1 (atE e k)).used) (by kernel_rfl) (fun h2 => ?_) (fun h2 => ?_)
  ·try simp only [Bool.and_eq_true, Bool.or_eq_true, decide_eq_true_eq, Bool.not_eq_true', decide_eq_false_iff_not, Bool.and_eq_false_iff, Bool.or_eq_false_iff, beq_iff_eq, bne_iff_ne, beq_eq_false_iff_ne, bne_eq_false_iff_eq, Bool.not_eq_eq_eq_not, Bool.not_true, Bool.not_false] at h2
   refine VC_skip ?_
   refine VQ_next ?_
   refine VC_seq ?_
   refine VC_block ?_
   refine VC_seq ?_
   have hk2 := hd.lt he hk h2
   obtain ⟨f9, hf1, hf2, hf3, hnx, hmx⟩ := hd.next he hk2 h2
   subst hf2
   have hf8 := findN_lt (setS s1 (atE e k) ⟨0, 0, 0, 0, false⟩) (s1 (atE e k)).p (s1 (atE e k)).v (s1 (atE e k)).c
   refine VC_region ?_
   refine VL_pure 4 [0, 6, 8, 48, 50] [(0, .pointer (some ⟨b, 0, none⟩)), (6, .int .i64 ((lookE L p v c).getD 0)), (8, .int .i64 ((atE e k : Nat) : Int)), (48, .int .i64 ((atE e k : Nat) : Int)), (50, .pointer (some ⟨b, 0, none⟩))] (by kernel_rfl) rfl ?_
   refine VL_index (d := 51) (b := b) (o := 0) (len := 128) (sz := 5) (m := ((atE e k : Nat) : Int)) (by kernel_rfl) (by kernel_rfl) (atE e k) (by rfl) (by first | exact hfi | exact hat | exact findN_lt _ _ _ _ | omega) ((atE e k) * 5) (by omega) ?_
   refine VL_load (d := 52) (t := 74) (a := ⟨b, (atE e k) * 5, none⟩) (v := .agg #[.int .i64 ((s1 (atE e k)).p), .int .i64 ((s1 (atE e k)).v), .int .i64 ((s1 (atE e k)).c), .int .i64 ((s1 (atE e k)).n), .bool ((s1 (atE e k)).used)]) (by kernel_rfl) (by kernel_rfl) (Loads.own ht (n := 5) (by kernel_rfl) (by rw [encT_size]; omega) (encT_all s1 (len - 1) room (atE e k) (by first | exact hfi | exact hat | exact findN_lt _ _ _ _ | omega))) ?_
   have hzs4 := hS.size
   have hzl6 := ht.lt
   refine VL_box (d := 9) (t := 74) (c := #[.int .i64 0, .int .i64 0, .int .i64 0, .int .i64 0, .bool false]) (by kernel_rfl) (by kernel_rfl) ?_
   intro b2 w6 hn2
   replace hS := Step.trans hS (Step.weak (hn2.step No))
   replace ht := ht.no (hn2.step No)
   have ho4 := hn2.own
   have hzhn2 := hn2.size
   have hqhn2 := hn2.eqb
   refine VL_store (b := b2) (o := 0) (vs := [.int .i64 ((s1 (atE e k)).p), .int .i64 ((s1 (atE e k)).v), .int .i64 ((s1 (atE e k)).c), .int .i64 ((s1 (atE e k)).n), .bool ((s1 (atE e k)).used)]) (by kernel_rfl) (by kernel_rfl) ho4 (Nat.le_of_ble_eq_true (by kernel_rfl)) ?_
   intro w7 hw3
   replace hS := Step.transNew hS hw3.step (fun _ _ _ => by omega)
   replace ht := ht.step hw3.step (show ¬ b = b2 by omega)
   have ho5 : Own w7 b2 #[.int .i64 ((s1 (atE e k)).p), .int .i64 ((s1 (atE e k)).v), .int .i64 ((s1 (atE e k)).c), .int .i64 ((s1 (atE e k)).n), .bool ((s1 (atE e k)).used)] 74 := Own.cast hw3.own (by kernel_rfl)
   have hzhw3 := hw3.same
   refine VL_end (by kernel_rfl) ?_
   refine VQ_next ?_
   refine VC_seq ?_
   refine VC_region ?_
   refine VL_pure 5 [0, 6, 8, 9, 54, 55, 57] [(0, .pointer (some ⟨b, 0, none⟩)), (6, .int .i64 ((lookE L p v c).getD 0)), (8, .int .i64 ((atE e k : Nat) : Int)), (9, .pointer (some ⟨b2, 0, none⟩)), (54, .int .i64 ((atE e k : Nat) : Int)), (55, .agg #[.int .i64 0, .int .i64 0, .int .i64 0, .int .i64 0, .bool false]), (57, .pointer (some ⟨b, 0, none⟩))] (by kernel_rfl) rfl ?_
   refine VL_index (d := 58) (b := b) (o := 0) (len := 128) (sz := 5) (m := ((atE e k : Nat) : Int)) (by kernel_rfl) (by kernel_rfl) (atE e k) (by rfl) (by first | exact hfi | exact hat | exact findN_lt _ _ _ _ | omega) ((atE e k) * 5) (by omega) ?_
   refine VL_store (b := b) (o := (atE e k) * 5) (vs := [.int .i64 0, .int .i64 0, .int .i64 0, .int .i64 0, .bool false]) (by kernel_rfl) (by kernel_rfl) ht (by rw [encT_size]; show _ + 5 ≤ _; omega) ?_
   intro w8 hw4
   replace hS := Step.trans hS (Step.mono hw4.step (by intro i hi; first | exact hi | exact ⟨_, by assumption, hi⟩ | (have hi9 : i = b := hi; (first | show _ ∨ _ | show _ = _); omega)))
   replace ho5 := ho5.step hw4.step (show ¬ b2 = b by omega)
   have ho6 : Own w8 b (encT (setS s1 (atE e k) ⟨0, 0, 0, 0, false⟩) (len - 1) room) 77 := Own.cast hw4.own (setRow_slot s1 (len - 1) room (atE e k) (by first | exact hfi | exact hat | exact findN_lt _ _ _ _ | omega) ⟨0, 0, 0, 0, false⟩)
   have hzhw4 := hw4.same
   refine VL_end (by kernel_rfl) ?_
   refine VQ_next ?_
   refine VC_det [[], [], [], [2], [1, 2, 3], [], [0], [0, 6], [0, 1, 2, 3, 4, 5, 6, 7], [0, 1, 2, 3, 4, 5, 6, 7, 8]] 8 [.pointer (some ⟨b, 0, none⟩), .pointer (some ⟨b, 0, none⟩), .pointer (some ⟨b2, 0, none⟩), .agg #[.int .i64 ((s1 (atE e k)).p), .int .i64 ((s1 (atE e k)).v), .int .i64 ((s1 (atE e k)).c)], .int .i64 ((findN (setS s1 (atE e k) ⟨0, 0, 0, 0, false⟩) ((s1 (atE e k)).p) ((s1 (atE e k)).v) ((s1 (atE e k)).c) : Nat) : Int), .agg #[.int .i64 ((s1 (atE e k)).p), .int .i64 ((s1 (atE e k)).v), .int .i64 ((s1 (atE e k)).c), .int .i64 ((s1 (atE e k)).n), .bool ((s1 (atE e k)).used)], .pointer (some ⟨b, 0, none⟩), .pointer (some ⟨b, 0, none⟩)] [0, 1, 2, 6, 7] [3, 4, 5] (by kernel_rfl) (by kernel_rfl) (by kernel_rfl) (by kernel_rfl) ?_ ?_
   ·intro w9 hs1
    replace hS := Step.trans hS (Step.weak hs1)
    replace ho5 := ho5.no hs1
    replace ho6 := ho6.no hs1
    exact ⟨Det1_load (d := 62) (t := 28) (a := ⟨b2, 0, none⟩) (by kernel_rfl) (by kernel_rfl) (Loads.ownL ho5 (n := 3) (by kernel_rfl) (by kernel_rfl) (by kernel_rfl)), Det1_call (d := 63) (f := 47) (args := #[.pointer (some ⟨b, 0, none⟩), .agg #[.int .i64 ((s1 (atE e k)).p), .int .i64 ((s1 (atE e k)).v), .int .i64 ((s1 (atE e k)).c)]]) (by kernel_rfl) (by kernel_rfl) (by kernel_rfl) Try.call47 (by exact find_at (s := setS s1 (atE e k) ⟨0, 0, 0, 0, false⟩) ((s1 (atE e k)).p) ((s1 (atE e k)).v) ((s1 (atE e k)).c) ho6 (atE_lt e k) (by rw [setS_eq])), Det1_load (d := 64) (t := 74) (a := ⟨b2, 0, none⟩) (by kernel_rfl) (by kernel_rfl) (Loads.ownL ho5 (n := 5) (by kernel_rfl) (by kernel_rfl) (by kernel_rfl)), trivial⟩
   intro w9 hs1
   replace hS := Step.trans hS (Step.weak hs1)
   replace ho5 := ho5.no hs1
   replace ho6 := ho6.no hs1
   refine VL_keep [0, 6, 8, 63, 64, 66] [(0, .pointer (some ⟨b, 0, none⟩)), (6, .int .i64 ((lookE L p v c).getD 0)), (8, .int .i64 ((atE e k : Nat) : Int)), (63, .int .i64 ((findN (setS s1 (atE e k) ⟨0, 0, 0, 0, false⟩) ((s1 (atE e k)).p) ((s1 (atE e k)).v) ((s1 (atE e k)).c) : Nat) : Int)), (64, .agg #[.int .i64 ((s1 (atE e k)).p), .int .i64 ((s1 (atE e k)).v), .int .i64 ((s1 (atE e k)).c), .int .i64 ((s1 (atE e k)).n), .bool ((s1 (atE e k)).used)]), (66, .pointer (some ⟨b, 0, none⟩))] (by kernel_rfl) ?_
   refine VL_index (d := 67) (b := b) (o := 0) (len := 128) (sz := 5) (m := ((findN (setS s1 (atE e k) ⟨0, 0, 0, 0, false⟩) ((s1 (atE e k)).p) ((s1 (atE e k)).v) ((s1 (atE e k)).c) : Nat) : Int)) (by kernel_rfl) (by kernel_rfl) (findN (setS s1 (atE e k) ⟨0, 0, 0, 0, false⟩) ((s1 (atE e k)).p) ((s1 (atE e k)).v) ((s1 (atE e k)).c)) (by rfl) (by first | exact hfi | exact hat | exact findN_lt _ _ _ _ | omega) ((findN (setS s1 (atE e k) ⟨0, 0, 0, 0, false⟩) ((s1 (atE e k)).p) ((s1 (atE e k)).v) ((s1 (atE e k)).c)) * 5) (by omega) ?_
   refine VL_store (b := b) (o := (findN (setS s1 (atE e k) ⟨0, 0, 0, 0, false⟩) ((s1 (atE e k)).p) ((s1 (atE e k)).v) ((s1 (atE e k)).c)) * 5) (vs := [.int .i64 ((s1 (atE e k)).p), .int .i64 ((s1 (atE e k)).v), .int .i64 ((s1 (atE e k)).c), .int .i64 ((s1 (atE e k)).n), .bool ((s1 (atE e k)).used)]) (by kernel_rfl) (by kernel_rfl) ho6 (by rw [encT_size]; show _ + 5 ≤ _; omega) ?_
   intro w10 hw5
   replace hS := Step.trans hS (Step.mono hw5.step (by intro i hi; first | exact hi | exact ⟨_, by assumption, hi⟩ | (have hi9 : i = b := hi; (first | show _ ∨ _ | show _ = _); omega)))
   replace ho5 := ho5.step hw5.step (show ¬ b2 = b by omega)
   have ho7 : Own w10 b (encT (setS (setS s1 (atE e k) ⟨0, 0, 0, 0, false⟩) (findN (setS s1 (atE e k) ⟨0, 0, 0, 0, false⟩) ((s1 (atE e k)).p) ((s1 (atE e k)).v) ((s1 (atE e k)).c)) ⟨(s1 (atE e k)).p, (s1 (atE e k)).v, (s1 (atE e k)).c, (s1 (atE e k)).n, (s1 (atE e k)).used⟩) (len - 1) room) 77 := Own.cast hw5.own (setRow_slot (setS s1 (atE e k) ⟨0, 0, 0, 0, false⟩) (len - 1) room (findN (setS s1 (atE e k) ⟨0, 0, 0, 0, false⟩) ((s1 (atE e k)).p) ((s1 (atE e k)).v) ((s1 (atE e k)).c)) (by first | exact hfi | exact hat | exact findN_lt _ _ _ _ | omega) ⟨(s1 (atE e k)).p, (s1 (atE e k)).v, (s1 (atE e k)).c, (s1 (atE e k)).n, (s1 (atE e k)).used⟩)
   have hzhw5 := hw5.same
   refine VL_end (by kernel_rfl) ?_
   refine VQ_block_normal ?_
   refine VQ_next ?_
   refine VC_region ?_
   refine VL_pure 3 [0, 6, 46] [(0, .pointer (some ⟨b, 0, none⟩)), (6, .int .i64 ((lookE L p v c).getD 0)), (46, .int .i64 ((IntKind.wrap .i64 (((atE e k : Nat) : Int) + 1)).tmod 128))] (by kernel_rfl) rfl ?_
   refine VL_keep [0, 6, 46] [(0, .pointer (some ⟨b, 0, none⟩)), (6, .int .i64 ((lookE L p v c).getD 0)), (46, .int .i64 ((IntKind.wrap .i64 (((atE e k : Nat) : Int) + 1)).tmod 128))] (by kernel_rfl) ?_
   refine VL_eq [(0, .pointer (some ⟨b, 0, none⟩)), (6, .int .i64 ((lookE L p v c).getD 0)), (46, .int .i64 ((atE e (k + 1) : Nat) : Int))] (by rw [wrap_i64 _ (by omega) (by omega), ← atE_succ he]; exact congrArg _ (by rw [Int.tmod_eq_emod_of_nonneg (by omega)]; rfl)) ?_
   refine VL_pure 4 [0, 6, 8] [(0, .pointer (some ⟨b, 0, none⟩)), (6, .int .i64 ((lookE L p v c).getD 0)), (8, .int .i64 ((atE e (k + 1) : Nat) : Int))] (by kernel_rfl) rfl ?_
   refine VL_end (by kernel_rfl) ?_
   refine VQ_again ⟨k + 1, setS (setS s1 (atE e k) noSlot) (findN (setS s1 (atE e k) noSlot) (s1 (atE e k)).p (s1 (atE e k)).v (s1 (atE e k)).c) (s1 (atE e k))⟩ ⟨rfl, rfl, rfl, trivial⟩ ?_ ?_
   ·exact ⟨by omega, hnx, fun x => (hmx x).trans (hm x), hS, ho7⟩
   ·show 128 - (k + 1) < 128 - k; omega
  ·try simp only [Bool.and_eq_true, Bool.or_eq_true, decide_eq_true_eq, Bool.not_eq_true', decide_eq_false_iff_not, Bool.and_eq_false_iff, Bool.or_eq_false_iff, beq_iff_eq, bne_iff_ne, beq_eq_false_iff_ne, bne_eq_false_iff_eq, Bool.not_eq_eq_eq_not, Bool.not_true, Bool.not_false] at h2
   refine VC_exit ?_
   refine VQ_then_exit ?_
   refine VQ_then_exit ?_
   refine VQ_block_hit ?_
   refine VQ_next ?_
   refine VC_seq ?_
   have htab := hT.drop hnn he hd (by rcases Nat.lt_or_eq_of_le hk with h9 | h9; exact .inl ⟨h9, by simpa using h2⟩; exact .inr h9) hm
   have hlen9 := htab.len
   refine VC_region ?_
   refine VL_pure 3 [4, 5] [(4, .int .i64 ((lookE L p v c).getD 0)), (5, .bool true)] (by kernel_rfl) rfl ?_
   refine VL_end (by kernel_rfl) ?_
   refine VQ_next ?_
   refine VC_ret ?_
   refine VQ_ret2 (.int .i64 ((lookE L p v c).getD 0)) (.bool true) (.inr rfl) rfl rfl rfl ?_
   exact ⟨s1, by rw [hnn]; rfl, Own.cast ht (by rw [show len - 1 = ((delE L p v c).length : Int) from hlen9]), by rw [← hlen9]; exact htab, hS⟩

end Go.Proofs.Ythchmlidobgkoaa
end

section
/- Package conns: a table is its list; no more is told of it. -/
set_option linter.unusedVariables false
set_option linter.unusedSimpArgs false
namespace Go.Proofs.Ythchmlidobgkoaa
open Go.Vc Go.RowKit
def Tb (w : World) (b : Nat) (room : Int) (L : List Ent) : Prop := ∃ s len, Own w b (encT s len room) 77 ∧ TabI s len room L
section
variable {w w' : World} {b : Nat} {room : Int} {L : List Ent}
theorem Tb.lt (h : Tb w b room L) : b < w.heap.size := by obtain ⟨s, len, ht, hT⟩ := h; exact ht.lt
theorem Tb.no (h : Tb w b room L) (hs : Step No w w') : Tb w' b room L := by obtain ⟨s, len, ht, hT⟩ := h; exact ⟨s, len, ht.no hs, hT⟩
theorem Tb.step {F : Nat → Prop} (h : Tb w b room L) (hs : Step F w w') (hF : ¬ F b) : Tb w' b room L := by obtain ⟨s, len, ht, hT⟩ := h; exact ⟨s, len, ht.step hs hF, hT⟩
theorem Tb.small (h : Tb w b room L) : L.length ≤ 64 := by
  obtain ⟨s, len, ht, hT⟩ := h
  have h1 := hT.len; have h2 := hT.inv.fits; have h3 := hT.inv.cap
  omega
theorem Tb.srt (h : Tb w b room L) : SrtE L := by obtain ⟨s, len, ht, hT⟩ := h; exact hT.srt
theorem Tb.right (h : Tb w b room L) {x : Ent} (hx : x ∈ L) : rightB x.p x.v x.c = true := by obtain ⟨s, len, ht, hT⟩ := h; exact hT.right hx
theorem Tb.fits (h : Tb w b room L) : (L.length : Int) ≤ room ∧ room ≤ 64 := by
  obtain ⟨s, len, ht, hT⟩ := h
  have h1 := hT.len; have h2 := hT.inv.fits; have h3 := hT.inv.cap
  omega
theorem tput (p v c n : Int) (h : Tb w b room L) : CV Try.prog 32 #[.pointer (some ⟨b, 0, none⟩), .agg #[.int .i64 p, .int .i64 v, .int .i64 c], .int .i64 n] w fun x w1 => x = .int .i64 (putK L room p v c) ∧ Tb w1 b room (putE L room p v c n) ∧ Step (Just b) w w1 := by
  obtain ⟨s, len, ht, hT⟩ := h
  refine (put_tab p v c n ht hT.inv).mono ?_
  rintro x w1 ⟨rfl, h1, h2, h3⟩
  exact ⟨by rw [hT.putC], ⟨_, _, h1, hT.put p v c n⟩, h3⟩
theorem tget (p v c : Int) (h : Tb w b room L) : CV Try.prog 36 #[.pointer (some ⟨b, 0, none⟩), .agg #[.int .i64 p, .int .i64 v, .int .i64 c]] w fun x w1 => x = .tuple #[.int .i64 ((lookE L p v c).getD 0), .bool (lookE L p v c).isSome] ∧ Step No w w1 := by
  obtain ⟨s, len, ht, hT⟩ := h
  exact get_tabL p v c ht hT
theorem tlen (h : Tb w b room L) : CV Try.prog 37 #[.pointer (some ⟨b, 0, none⟩)] w fun x w1 => x = .int .i64 ((L.length : Nat) : Int) ∧ Step No w w1 := by
  obtain ⟨s, len, ht, hT⟩ := h
  rw [← hT.len]
  exact len_tab ht
theorem tdrop (p v c : Int) (h : Tb w b room L) : CV Try.prog 39 #[.pointer (some ⟨b, 0, none⟩), .agg #[.int .i64 p, .int .i64 v, .int .i64 c]] w fun x w1 => x = .tuple #[.int .i64 ((lookE L p v c).getD 0), .bool (lookE L p v c).isSome] ∧ Tb w1 b room (delE L p v c) ∧ Step (Just b) w w1 := by
  obtain ⟨s, len, ht, hT⟩ := h
  refine (drop_any b s len room L p v c w ht hT).mono ?_
  rintro x w1 ⟨s', rfl, h1, h2, h3⟩
  exact ⟨rfl, ⟨_, _, h1, h2⟩, h3⟩
theorem tnew (m : Int) (w : World) : CV Try.prog 18 #[.int .i64 m] w fun x w1 => ∃ b, x = .pointer (some ⟨b, 0, none⟩) ∧ ¬ b < w.heap.size ∧ Tb w1 b (imax 0 (imin m 64)) [] ∧ Step No w w1 := by
  refine (new_any m w).mono ?_
  rintro x w1 ⟨b, rfl, h1, h2, h3⟩
  exact ⟨b, rfl, h1, ⟨_, _, h2, TabI.new m⟩, h3⟩
theorem titer (B b : Nat) (room : Int) (LL : List Ent) :
    IterC Try.prog 42 #[.pointer (some ⟨B, 0, none⟩)] (entV LL) (fun k W => k = 0 → Own W B #[.pointer (some ⟨b, 0, none⟩)] 49 ∧ Tb W b room LL) := by
  intro L W0 J Jx hJn hJxn hrd hrd0 h0 hy
  obtain ⟨hB, s, len, ht, hT⟩ := hrd0 rfl
  exact all1_any L B b s len room LL hT W0 J Jx hJn hB ht h0 fun M k W args hM hM2 hx hj => hy M k W args hM hM2 hx hj
end
/-! ### Plain -/
end Go.Proofs.Ythchmlidobgkoaa
end
