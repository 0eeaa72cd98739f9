/- Package conns in plain Lean: a table is a list of entries, in order. -/
import Derived.Test.YtfkahhkojlfmdaaCn5
set_option linter.unusedVariables false
set_option linter.unusedSimpArgs false
namespace Go.Proofs.Ytfkahhkojlfmdaa
open Go.Vc
/-- An entry: a key, a number. -/
structure Ent where
  p : Int
  v : Int
  c : Int
  n : Int
deriving DecidableEq
def Ent.slot (x : Ent) : Slot := ⟨x.p, x.v, x.c, x.n, true⟩
def Slot.ent (x : Slot) : Ent := ⟨x.p, x.v, x.c, x.n⟩
/-- Is a key ahead of another one? -/
def befK (p v c p' v' c' : Int) : Bool := decide (p < p' ∨ p = p' ∧ (v < v' ∨ v = v' ∧ c < c'))
def befE (x y : Ent) : Bool := befK x.p x.v x.c y.p y.v y.c
def keyIs (x : Ent) (p v c : Int) : Bool := decide (x.p = p ∧ x.v = v ∧ x.c = c)
theorem befK_iff {p v c p' v' c' : Int} : befK p v c p' v' c' = true ↔ p < p' ∨ p = p' ∧ (v < v' ∨ v = v' ∧ c < c') := by simp [befK]
theorem befK_false {p v c p' v' c' : Int} : befK p v c p' v' c' = false ↔ ¬ (p < p' ∨ p = p' ∧ (v < v' ∨ v = v' ∧ c < c')) := by simp only [befK, decide_eq_false_iff_not]
theorem befE_irrefl (x : Ent) : befE x x = false := befK_false.2 (by omega)
theorem befE_trans {x y z : Ent} (h : befE x y = true) (k : befE y z = true) : befE x z = true := by
  have h := befK_iff.1 h
  have k := befK_iff.1 k
  exact befK_iff.2 (by omega)
theorem befE_total {x y : Ent} (h : ¬ (x.p = y.p ∧ x.v = y.v ∧ x.c = y.c)) (k : befE x y = false) : befE y x = true := by
  have k := befK_false.1 k
  exact befK_iff.2 (by omega)
theorem befE_ne {x y : Ent} (h : befE x y = true) : ¬ (x.p = y.p ∧ x.v = y.v ∧ x.c = y.c) := by
  have h := befK_iff.1 h
  omega
def SrtE (L : List Ent) : Prop := L.Pairwise fun x y => befE x y = true
theorem SrtE.nodup {L : List Ent} (h : SrtE L) : L.Nodup := by
  refine List.Pairwise.imp ?_ h
  rintro x y hxy rfl
  rw [befE_irrefl] at hxy; cases hxy
theorem SrtE.inj {L : List Ent} (h : SrtE L) {x y : Ent} (hx : x ∈ L) (hy : y ∈ L) (hk : x.p = y.p ∧ x.v = y.v ∧ x.c = y.c) : x = y := by
  induction L with
  | nil => simp at hx
  | cons z L ih =>
    obtain ⟨hz, hL⟩ := List.pairwise_cons.1 h
    rcases List.mem_cons.1 hx with e1 | hx1
    · rcases List.mem_cons.1 hy with e2 | hy1
      · rw [e1, e2]
      · rw [e1] at hk; exact absurd hk (befE_ne (hz y hy1))
    · rcases List.mem_cons.1 hy with e2 | hy1
      · rw [e2] at hk; exact absurd ⟨hk.1.symm, hk.2.1.symm, hk.2.2.symm⟩ (befE_ne (hz x hx1))
      · exact ih hL hx1 hy1
/-- Lists in order with the same members are one. -/
theorem srt_ext {L M : List Ent} (hL : SrtE L) (hM : SrtE M) (h : ∀ x, x ∈ L ↔ x ∈ M) : L = M := by
  induction L generalizing M with
  | nil =>
    cases M with
    | nil => rfl
    | cons y M => exact absurd ((h y).2 (by simp)) (by simp)
  | cons x L ih =>
    cases M with
    | nil => exact absurd ((h x).1 (by simp)) (by simp)
    | cons y M =>
      obtain ⟨hx, hL'⟩ := List.pairwise_cons.1 hL
      obtain ⟨hy, hM'⟩ := List.pairwise_cons.1 hM
      have hxy : x = y := by
        rcases List.mem_cons.1 ((h x).1 (by simp)) with e | e
        · exact e
        · rcases List.mem_cons.1 ((h y).2 (by simp)) with e' | e'
          · exact e'.symm
          · have a := befE_trans (hy x e) (hx y e')
            rw [befE_irrefl] at a; cases a
      subst hxy
      congr 1
      refine ih hL' hM' fun z => ⟨fun hz => ?_, fun hz => ?_⟩
      · rcases List.mem_cons.1 ((h z).1 (by simp [hz])) with rfl | e
        · have a := hx z hz; rw [befE_irrefl] at a; cases a
        · exact e
      · rcases List.mem_cons.1 ((h z).2 (by simp [hz])) with rfl | e
        · have a := hy z hz; rw [befE_irrefl] at a; cases a
        · exact e
/-! ### What is done with a list -/
def lookE (L : List Ent) (p v c : Int) : Option Int := (L.find? fun x => keyIs x p v c).map (·.n)
def delE (L : List Ent) (p v c : Int) : List Ent := L.filter fun x => !keyIs x p v c
/-- How many are ahead of a key. -/
def aheadE : List Ent → Int → Int → Int → Nat
  | [], _, _, _ => 0
  | x :: L, p, v, c => bif befK x.p x.v x.c p v c then aheadE L p v c + 1 else 0
def insE (L : List Ent) (x : Ent) : List Ent := L.take (aheadE L x.p x.v x.c) ++ x :: L.drop (aheadE L x.p x.v x.c)
theorem insE_cons (y : Ent) (L : List Ent) (x : Ent) : insE (y :: L) x = bif befE y x then y :: insE L x else x :: y :: L := by
  unfold insE befE
  simp only [aheadE]
  cases befK y.p y.v y.c x.p x.v x.c <;> simp
theorem mem_insE {L : List Ent} {x y : Ent} : y ∈ insE L x ↔ y = x ∨ y ∈ L := by
  unfold insE
  rw [List.mem_append, List.mem_cons]
  constructor
  · rintro (h | h | h)
    · exact .inr (List.mem_of_mem_take h)
    · exact .inl h
    · exact .inr (List.mem_of_mem_drop h)
  · rintro (h | h)
    · exact .inr (.inl h)
    · rw [← List.take_append_drop (aheadE L x.p x.v x.c) L, List.mem_append] at h
      rcases h with h | h
      · exact .inl h
      · exact .inr (.inr h)
theorem insE_srt {L : List Ent} (h : SrtE L) {x : Ent} (hx : ∀ y ∈ L, ¬ (y.p = x.p ∧ y.v = x.v ∧ y.c = x.c)) : SrtE (insE L x) := by
  induction L with
  | nil => exact List.pairwise_cons.2 ⟨fun y hy => by simp at hy, List.Pairwise.nil⟩
  | cons y L ih =>
    obtain ⟨hy, hL⟩ := List.pairwise_cons.1 h
    rw [insE_cons]
    cases hb : befE y x with
    | true =>
      refine List.pairwise_cons.2 ⟨fun z hz => ?_, ih hL fun z hz => hx z (by simp [hz])⟩
      rcases mem_insE.1 hz with rfl | hz
      · exact hb
      · exact hy z hz
    | false =>
      have hxy := befE_total (hx y (by simp)) hb
      refine List.pairwise_cons.2 ⟨fun z hz => ?_, h⟩
      rcases List.mem_cons.1 hz with rfl | hz
      · exact hxy
      · exact befE_trans hxy (hy z hz)
theorem insE_len (L : List Ent) (x : Ent) : (insE L x).length = L.length + 1 := by
  unfold insE
  have : aheadE L x.p x.v x.c ≤ L.length := by
    induction L with
    | nil => simp [aheadE]
    | cons y L ih => simp only [aheadE]; cases befK y.p y.v y.c x.p x.v x.c <;> simp [ih]
  simp; omega
theorem delE_srt {L : List Ent} (h : SrtE L) (p v c : Int) : SrtE (delE L p v c) := List.Pairwise.filter _ h
theorem mem_delE {L : List Ent} {p v c : Int} {x : Ent} : x ∈ delE L p v c ↔ x ∈ L ∧ ¬ (x.p = p ∧ x.v = v ∧ x.c = c) := by
  unfold delE
  rw [List.mem_filter]
  simp only [keyIs, Bool.not_eq_true', decide_eq_false_iff_not]
theorem lookE_some {L : List Ent} (h : SrtE L) {p v c n : Int} : lookE L p v c = some n ↔ ⟨p, v, c, n⟩ ∈ L := by
  unfold lookE
  constructor
  · intro h1
    obtain ⟨x, hx, rfl⟩ := Option.map_eq_some_iff.1 h1
    have h2 := List.mem_of_find?_eq_some hx
    have h3 := List.find?_some hx
    simp only [keyIs, decide_eq_true_eq] at h3
    obtain ⟨rfl, rfl, rfl⟩ := h3
    exact h2
  · intro h1
    cases hf : L.find? (fun x => keyIs x p v c) with
    | none => exact absurd (List.find?_eq_none.1 hf _ h1) (by simp [keyIs])
    | some y =>
      have h2 := List.mem_of_find?_eq_some hf
      have h3 := List.find?_some hf
      simp only [keyIs, decide_eq_true_eq] at h3
      have := h.inj h2 h1 h3
      rw [this]; rfl
theorem lookE_none {L : List Ent} {p v c : Int} : lookE L p v c = none ↔ ∀ y ∈ L, ¬ (y.p = p ∧ y.v = v ∧ y.c = c) := by
  unfold lookE
  rw [Option.map_eq_none_iff, List.find?_eq_none]
  simp [keyIs]
/-! ### A table holds a list -/
structure TabI (s : Nat → Slot) (len room : Int) (L : List Ent) : Prop where
  inv : Inv s len room
  srt : SrtE L
  mem : ∀ x : Ent, x ∈ L ↔ HasS s x.slot
theorem slot_ent {x : Slot} (h : x.used = true) : x.ent.slot = x := by cases x; simp_all [Slot.ent, Ent.slot]
theorem ent_slot (x : Ent) : x.slot.ent = x := rfl
theorem TabI.new (m : Int) : TabI noSlots 0 (imax 0 (imin m 64)) [] := ⟨Inv.new m, List.Pairwise.nil, fun x => ⟨fun h => by simp at h, fun ⟨_, i, _, h2⟩ => by have := congrArg Slot.used h2; cases this⟩⟩
theorem TabI.len {s : Nat → Slot} {len room : Int} {L : List Ent} (h : TabI s len room L) : len = (L.length : Nat) := by
  have hc : cntU s = L.length := by
    have hn : ((usedL s).map fun i => (s i).ent).Nodup := by
      rw [List.nodup_iff_pairwise_ne, List.pairwise_map]
      refine List.Pairwise.imp_of_mem ?_ (List.nodup_iff_pairwise_ne.1 (usedL_nodup s))
      intro i j hi hj hne heq
      obtain ⟨i1, i2⟩ := mem_usedL.1 hi
      obtain ⟨j1, j2⟩ := mem_usedL.1 hj
      exact hne (h.inv.apart i j i1 j1 i2 j2 (congrArg Ent.p heq) (congrArg Ent.v heq) (congrArg Ent.c heq))
    have h1 := length_le_of_nodup hn (m := L) fun x hx => by
      obtain ⟨i, hi, rfl⟩ := List.mem_map.1 hx
      obtain ⟨i1, i2⟩ := mem_usedL.1 hi
      refine (h.mem _).2 ?_
      rw [slot_ent i2]
      exact ⟨i2, i, i1, rfl⟩
    have h2 := length_le_of_nodup h.srt.nodup (m := (usedL s).map fun i => (s i).ent) fun x hx => by
      obtain ⟨hu, i, hi, hix⟩ := (h.mem x).1 hx
      exact List.mem_map.2 ⟨i, mem_usedL.2 ⟨hi, by rw [hix]; rfl⟩, by rw [hix]; rfl⟩
    rw [List.length_map] at h1 h2
    unfold cntU; omega
  rw [h.inv.cnt, hc]
theorem TabI.val {s : Nat → Slot} {len room : Int} {L : List Ent} (h : TabI s len room L) (p v c : Int) : val s p v c = lookE L p v c := by
  apply Option.ext
  intro n
  rw [val_some h.inv, lookE_some h.srt, h.mem]
  constructor
  · rintro ⟨i, hi, hu, rfl, rfl, rfl, rfl⟩
    refine ⟨rfl, i, hi, ?_⟩
    show s i = (s i).ent.slot
    rw [slot_ent hu]
  · rintro ⟨_, i, hi, hix⟩
    exact ⟨i, hi, by rw [hix]; exact ⟨rfl, rfl, rfl, rfl, rfl⟩⟩
theorem TabI.right {s : Nat → Slot} {len room : Int} {L : List Ent} (h : TabI s len room L) {x : Ent} (hx : x ∈ L) : rightB x.p x.v x.c = true := by
  obtain ⟨hu, i, hi, hix⟩ := (h.mem x).1 hx
  have := h.inv.right i hi (by rw [hix]; rfl)
  rwa [hix] at this
def putK (L : List Ent) (room p v c : Int) : Int := if rightB p v c = true then (if (lookE L p v c).isSome = true then 7 else if (L.length : Int) ≥ room then 9 else 0) else 1
def putE (L : List Ent) (room p v c n : Int) : List Ent := if putK L room p v c = 0 then insE L ⟨p, v, c, n⟩ else L
theorem TabI.putC {s : Nat → Slot} {len room : Int} {L : List Ent} (h : TabI s len room L) (p v c : Int) : putC s len room p v c = putK L room p v c := by
  have h1 : (s (findN s p v c)).used = (lookE L p v c).isSome := by rw [← h.val p v c, ← val_there]; rfl
  unfold Go.Proofs.Ytfkahhkojlfmdaa.putC putK
  rw [h1, h.len]
theorem putK_ok {L : List Ent} {room p v c : Int} : putK L room p v c = 0 ↔ rightB p v c = true ∧ lookE L p v c = none ∧ (L.length : Int) < room := by
  unfold putK
  constructor
  · intro h
    by_cases h1 : rightB p v c = true
    · rw [if_pos h1] at h
      by_cases h2 : (lookE L p v c).isSome = true
      · rw [if_pos h2] at h; omega
      · rw [if_neg h2] at h
        by_cases h3 : (L.length : Int) ≥ room
        · rw [if_pos h3] at h; omega
        · exact ⟨h1, by simpa using h2, by omega⟩
    · rw [if_neg h1] at h; omega
  · rintro ⟨h1, h2, h3⟩
    rw [if_pos h1, if_neg (by rw [h2]; simp), if_neg (by omega)]
theorem TabI.put {s : Nat → Slot} {len room : Int} {L : List Ent} (h : TabI s len room L) (p v c n : Int) : TabI (putS s len room p v c n) (putL s len room p v c) room (putE L room p v c n) := by
  have hi := h.inv.put p v c n
  by_cases h0 : Go.Proofs.Ytfkahhkojlfmdaa.putC s len room p v c = 0
  · have hk : putK L room p v c = 0 := by rw [← h.putC]; exact h0
    obtain ⟨k1, k2, k3⟩ := putK_ok.1 hk
    have e : putE L room p v c n = insE L ⟨p, v, c, n⟩ := by unfold putE; rw [if_pos hk]
    rw [e]
    refine ⟨hi, insE_srt h.srt (lookE_none.1 k2), fun x => ?_⟩
    have hv : ∀ m, Go.Proofs.Ytfkahhkojlfmdaa.val (putS s len room p v c n) x.p x.v x.c = some m ↔ _ := fun m => val_some hi
    rw [mem_insE]
    have hval := val_put (n := n) h.inv h0 x.p x.v x.c
    have hx : HasS (putS s len room p v c n) x.slot ↔ Go.Proofs.Ytfkahhkojlfmdaa.val (putS s len room p v c n) x.p x.v x.c = some x.n := by
      rw [val_some hi]
      constructor
      · rintro ⟨_, i, hi, hix⟩
        exact ⟨i, hi, by rw [hix]; exact ⟨rfl, rfl, rfl, rfl, rfl⟩⟩
      · rintro ⟨i, hi, hu, h1, h2, h3, h4⟩
        refine ⟨rfl, i, hi, ?_⟩
        have := slot_ent hu
        rw [← this]
        simp [Slot.ent, Ent.slot, h1, h2, h3, h4]
    rw [hx, hval]
    by_cases hk' : x.p = p ∧ x.v = v ∧ x.c = c
    · rw [if_pos hk']
      constructor
      · rintro (rfl | hL)
        · rfl
        · exact absurd hk' (lookE_none.1 k2 x hL)
      · intro hn
        left
        obtain ⟨a1, a2, a3⟩ := hk'
        simp only [Option.some.injEq] at hn
        cases x; simp_all
    · rw [if_neg hk', h.val, lookE_some h.srt]
      constructor
      · rintro (rfl | hL)
        · exact absurd ⟨rfl, rfl, rfl⟩ hk'
        · exact hL
      · exact .inr
  · have hk : ¬ putK L room p v c = 0 := by rw [← h.putC]; exact h0
    rw [(put_not (n := n) h0).1, (put_not (n := n) h0).2] at hi ⊢
    unfold putE
    rw [if_neg hk]
    exact ⟨hi, h.srt, h.mem⟩
/-- What is taken out. -/
theorem TabI.drop {s s' : Nat → Slot} {len room : Int} {L : List Ent} (h : TabI s len room L) {p v c n : Int} (hl : lookE L p v c = some n) {e k : Nat} (he : e < 128) (hd : DropI s' e k) (hk : k < 128 ∧ (s' (atE e k)).used = false ∨ k = 128)
    (hm : ∀ x, HasS s' x ↔ HasS (setS s (findN s p v c) noSlot) x) : TabI s' (len - 1) room (delE L p v c) := by
  have hv : Go.Proofs.Ytfkahhkojlfmdaa.val s p v c = some n := by rw [h.val]; exact hl
  have ht : there s p v c = true := by rw [val_there, hv]; rfl
  obtain ⟨t1, t2, t3⟩ := there_key h.inv ht
  have hu : (s (findN s p v c)).used = true := ht
  have hi := findN_lt s p v c
  have own := hd.done he hk
  have hmem : ∀ x : Ent, x ∈ delE L p v c ↔ HasS s' x.slot := by
    intro x
    rw [mem_delE, hm, h.mem]
    constructor
    · rintro ⟨⟨hu', i, hi', hix⟩, hne⟩
      refine ⟨hu', i, hi', ?_⟩
      have : i ≠ findN s p v c := by
        rintro rfl
        rw [hix] at t1 t2 t3
        exact hne ⟨t1, t2, t3⟩
      rw [setS_ne this]; exact hix
    · rintro ⟨hu', i, hi', hix⟩
      have hne : i ≠ findN s p v c := by
        rintro rfl
        rw [setS_eq] at hix
        have := congrArg Slot.used hix; cases this
      rw [setS_ne hne] at hix
      refine ⟨⟨hu', i, hi', hix⟩, fun hk' => hne ?_⟩
      have hiu : (s i).used = true := by rw [hix]; rfl
      exact h.inv.apart i _ hi' hi hiu hu (by rw [hix, t1]; exact hk'.1) (by rw [hix, t2]; exact hk'.2.1) (by rw [hix, t3]; exact hk'.2.2)
  have hright : ∀ i, i < 128 → (s' i).used = true → rightB (s' i).p (s' i).v (s' i).c = true := by
    intro i hi' hiu
    have hx : (s' i).ent ∈ delE L p v c := (hmem _).2 (by rw [slot_ent hiu]; exact ⟨hiu, i, hi', rfl⟩)
    exact h.right (mem_delE.1 hx).1
  have hlen : (delE L p v c).length + 1 = L.length := by
    have hx := (lookE_some h.srt).1 hl
    have h1 := length_le_of_nodup (l := (⟨p, v, c, n⟩ : Ent) :: delE L p v c) (m := L) (List.nodup_cons.2 ⟨fun hx => (mem_delE.1 hx).2 ⟨rfl, rfl, rfl⟩, (delE_srt h.srt p v c).nodup⟩) fun y hy => by
      rcases List.mem_cons.1 hy with rfl | hy
      · exact hx
      · exact (mem_delE.1 hy).1
    have h2 := length_le_of_nodup (l := L) (m := (⟨p, v, c, n⟩ : Ent) :: delE L p v c) h.srt.nodup fun y hy => by
      by_cases hk' : y.p = p ∧ y.v = v ∧ y.c = c
      · rw [h.srt.inj hy hx hk']; simp
      · exact List.mem_cons_of_mem _ (mem_delE.2 ⟨hy, hk'⟩)
    simp only [List.length_cons] at h1 h2
    omega
  have hc : cntU s' = (delE L p v c).length := by
    have hn : ((usedL s').map fun i => (s' i).ent).Nodup := by
      rw [List.nodup_iff_pairwise_ne, List.pairwise_map]
      refine List.Pairwise.imp_of_mem ?_ (List.nodup_iff_pairwise_ne.1 (usedL_nodup s'))
      intro i j hi hj hne heq
      obtain ⟨i1, i2⟩ := mem_usedL.1 hi
      obtain ⟨j1, j2⟩ := mem_usedL.1 hj
      exact hne (hd.apart i j i1 j1 i2 j2 (congrArg Ent.p heq) (congrArg Ent.v heq) (congrArg Ent.c heq))
    have h1 := length_le_of_nodup hn (m := delE L p v c) fun x hx => by
      obtain ⟨i, hi, rfl⟩ := List.mem_map.1 hx
      obtain ⟨i1, i2⟩ := mem_usedL.1 hi
      refine (hmem _).2 ?_
      rw [slot_ent i2]
      exact ⟨i2, i, i1, rfl⟩
    have h2 := length_le_of_nodup (delE_srt h.srt p v c).nodup (m := (usedL s').map fun i => (s' i).ent) fun x hx => by
      obtain ⟨hu, i, hi, hix⟩ := (hmem x).1 hx
      exact List.mem_map.2 ⟨i, mem_usedL.2 ⟨hi, by rw [hix]; rfl⟩, by rw [hix]; rfl⟩
    rw [List.length_map] at h1 h2
    unfold cntU; omega
  have hlL := h.len
  have hf := h.inv.fits
  exact ⟨⟨own, hd.zero, hright, by rw [hc]; omega, by omega, h.inv.cap⟩, delE_srt h.srt p v c, hmem⟩
/-- The loop's start. -/
theorem TabI.dropI {s : Nat → Slot} {len room : Int} {L : List Ent} (h : TabI s len room L) {e i : Nat} (he : e < 128) (hu : (s e).used = false) (hi : i < 128) (hiu : (s i).used = true) :
    DropI (setS s i noSlot) e (offE e i + 1) ∧ offE e i < 128 ∧ (i + 1) % 128 = atE e (offE e i + 1) := by
  have hl := h.inv.lin he hu
  have hk := offE_lt e i
  have ei := atE_off he hi
  have hl2 : LinI s e (fun j x => offE e i ≤ j ∧ x < offE e i) := ⟨hl.free, fun k hk hku => ⟨(hl.way k hk hku).1, fun x h1 h2 => .inl (((hl.way k hk hku).2 x h1 h2).resolve_right id)⟩, hl.pos⟩
  have h3 := hl2.clear he hk
  rw [ei] at h3
  exact ⟨⟨h3, h.inv.apart.clear i, zero_clear h.inv.zero i⟩, hk, by rw [← atE_succ he, ei]⟩
end Go.Proofs.Ytfkahhkojlfmdaa
