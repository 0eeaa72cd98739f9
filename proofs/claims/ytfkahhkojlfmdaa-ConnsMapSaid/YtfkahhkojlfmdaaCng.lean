/- Package conns: a table is its list; no more is told of it. -/
import Derived.Test.YtfkahhkojlfmdaaCne
import Derived.Test.YtfkahhkojlfmdaaCn8
import Derived.Test.YtfkahhkojlfmdaaCn3
set_option linter.unusedVariables false
set_option linter.unusedSimpArgs false
namespace Go.Proofs.Ytfkahhkojlfmdaa
open Go.Vc Go.RowKit
def Tb (w : World) (b : Nat) (room : Int) (L : List Ent) : Prop := ∃ s len, Own w b (encT s len room) 62 ∧ TabI s len room L
section
variable {w w' : World} {b : Nat} {room : Int} {L : List Ent}
theorem Tb.lt (h : Tb w b room L) : b < w.heap.size := by obtain ⟨s, len, ht, hT⟩ := h; exact ht.lt
theorem Tb.no (h : Tb w b room L) (hs : Step No w w') : Tb w' b room L := by obtain ⟨s, len, ht, hT⟩ := h; exact ⟨s, len, ht.no hs, hT⟩
theorem Tb.step {F : Nat → Prop} (h : Tb w b room L) (hs : Step F w w') (hF : ¬ F b) : Tb w' b room L := by obtain ⟨s, len, ht, hT⟩ := h; exact ⟨s, len, ht.step hs hF, hT⟩
theorem Tb.small (h : Tb w b room L) : L.length ≤ 64 := by
  obtain ⟨s, len, ht, hT⟩ := h
  have h1 := hT.len; have h2 := hT.inv.fits; have h3 := hT.inv.cap
  omega
theorem Tb.srt (h : Tb w b room L) : SrtE L := by obtain ⟨s, len, ht, hT⟩ := h; exact hT.srt
theorem Tb.right (h : Tb w b room L) {x : Ent} (hx : x ∈ L) : rightB x.p x.v x.c = true := by obtain ⟨s, len, ht, hT⟩ := h; exact hT.right hx
theorem Tb.fits (h : Tb w b room L) : (L.length : Int) ≤ room ∧ room ≤ 64 := by
  obtain ⟨s, len, ht, hT⟩ := h
  have h1 := hT.len; have h2 := hT.inv.fits; have h3 := hT.inv.cap
  omega
theorem tput (p v c n : Int) (h : Tb w b room L) : CV Try.prog 11 #[.pointer (some ⟨b, 0, none⟩), .agg #[.int .i64 p, .int .i64 v, .int .i64 c], .int .i64 n] w fun x w1 => x = .int .i64 (putK L room p v c) ∧ Tb w1 b room (putE L room p v c n) ∧ Step (Just b) w w1 := by
  obtain ⟨s, len, ht, hT⟩ := h
  refine (put_tab p v c n ht hT.inv).mono ?_
  rintro x w1 ⟨rfl, h1, h2, h3⟩
  exact ⟨by rw [hT.putC], ⟨_, _, h1, hT.put p v c n⟩, h3⟩
theorem tget (p v c : Int) (h : Tb w b room L) : CV Try.prog 14 #[.pointer (some ⟨b, 0, none⟩), .agg #[.int .i64 p, .int .i64 v, .int .i64 c]] w fun x w1 => x = .tuple #[.int .i64 ((lookE L p v c).getD 0), .bool (lookE L p v c).isSome] ∧ Step No w w1 := by
  obtain ⟨s, len, ht, hT⟩ := h
  exact get_tabL p v c ht hT
theorem tlen (h : Tb w b room L) : CV Try.prog 15 #[.pointer (some ⟨b, 0, none⟩)] w fun x w1 => x = .int .i64 ((L.length : Nat) : Int) ∧ Step No w w1 := by
  obtain ⟨s, len, ht, hT⟩ := h
  rw [← hT.len]
  exact len_tab ht
theorem tdrop (p v c : Int) (h : Tb w b room L) : CV Try.prog 16 #[.pointer (some ⟨b, 0, none⟩), .agg #[.int .i64 p, .int .i64 v, .int .i64 c]] w fun x w1 => x = .tuple #[.int .i64 ((lookE L p v c).getD 0), .bool (lookE L p v c).isSome] ∧ Tb w1 b room (delE L p v c) ∧ Step (Just b) w w1 := by
  obtain ⟨s, len, ht, hT⟩ := h
  refine (drop_any b s len room L p v c w ht hT).mono ?_
  rintro x w1 ⟨s', rfl, h1, h2, h3⟩
  exact ⟨rfl, ⟨_, _, h1, h2⟩, h3⟩
theorem tnew (m : Int) (w : World) : CV Try.prog 10 #[.int .i64 m] w fun x w1 => ∃ b, x = .pointer (some ⟨b, 0, none⟩) ∧ ¬ b < w.heap.size ∧ Tb w1 b (imax 0 (imin m 64)) [] ∧ Step No w w1 := by
  refine (new_any m w).mono ?_
  rintro x w1 ⟨b, rfl, h1, h2, h3⟩
  exact ⟨b, rfl, h1, ⟨_, _, h2, TabI.new m⟩, h3⟩
/-- Free, said of a list. -/
def FreeL (L : List Ent) (p v fr : Int) (x : Int) (ok : Bool) : Prop :=
  ∃ e : Int, imax fr 0 ≤ e ∧ (∀ i, imax fr 0 ≤ i → i < e → rightB p v i = true ∧ (lookE L p v i).isSome = true) ∧
    ((ok = true ∧ x = e ∧ rightB p v e = true ∧ (lookE L p v e).isSome = false) ∨ (ok = false ∧ x = 0 ∧ rightB p v e = false))
theorem tfree (p v fr : Int) (h : Tb w b room L) : CV Try.prog 12 #[.pointer (some ⟨b, 0, none⟩), .int .i64 p, .int .i64 v, .int .i64 fr] w fun x w1 => ∃ r ok, x = .tuple #[.int .i64 r, .bool ok] ∧ FreeL L p v fr r ok ∧ Step No w w1 := by
  obtain ⟨s, len, ht, hT⟩ := h
  refine (free_tab p v fr ht hT.inv).mono ?_
  rintro x w1 ⟨r, ok, rfl, ⟨e, h1, h2, h3⟩, hs⟩
  have hth : ∀ i, there s p v i = (lookE L p v i).isSome := fun i => by rw [val_there, hT.val]
  simp only [hth] at h2 h3
  exact ⟨r, ok, rfl, ⟨e, h1, h2, h3⟩, hs⟩
theorem titer (B b : Nat) (room : Int) (LL : List Ent) :
    IterC Try.prog 28 #[.pointer (some ⟨B, 0, none⟩)] (entV LL) (fun k W => k = 0 → Own W B #[.pointer (some ⟨b, 0, none⟩)] 24 ∧ Tb W b room LL) := by
  intro L W0 J Jx hJn hJxn hrd hrd0 h0 hy
  obtain ⟨hB, s, len, ht, hT⟩ := hrd0 rfl
  exact all1_any L B b s len room LL hT W0 J Jx hJn hB ht h0 fun M k W args hM hM2 hx hj => hy M k W args hM hM2 hx hj
theorem tall (h : Tb w b room L) : CV Try.prog 18 #[.pointer (some ⟨b, 0, none⟩)] w fun x w1 => ∃ A n c, x = .slice A n c ∧ L.length = n ∧ RwS w1 4 w.heap.size 69 A n c (flat Ent.cells L) ∧ Step No w w1 := by
  obtain ⟨s, len, ht, hT⟩ := h
  refine (lall_any b s len room L hT w ht).mono ?_
  rintro x w1 ⟨A, n, c, rfl, h1, h2, h3, h4⟩
  exact ⟨A, n, c, rfl, h1, h2, h4⟩
end
/-! ### Plain -/
/-- Without its first entry. -/
theorem delE_head {L : List Ent} (h : SrtE L) {k : Nat} {y : Ent} (hy : L[k]? = some y) : delE (L.drop k) y.p y.v y.c = L.drop (k + 1) := by
  obtain ⟨hk, rfl⟩ := List.getElem?_eq_some_iff.1 hy
  have h2 : SrtE (L.drop k) := List.Pairwise.sublist (List.drop_sublist k L) h
  rw [List.drop_eq_getElem_cons hk] at h2 ⊢
  obtain ⟨h3, h4⟩ := List.pairwise_cons.1 h2
  unfold delE
  rw [List.filter_cons_of_neg (by simp [keyIs])]
  refine List.filter_eq_self.2 fun x hx => ?_
  have := befE_ne (h3 x hx)
  unfold keyIs
  rw [decide_eq_false fun e => this ⟨e.1.symm, e.2.1.symm, e.2.2.symm⟩]; rfl
/-- The one behind which k are told. -/
def lastE (L : List Ent) : Nat → Ent
  | 0 => ⟨0, 0, 0, 0⟩
  | k + 1 => L.getD k ⟨0, 0, 0, 0⟩
theorem lastE_next {L : List Ent} {k : Nat} {y : Ent} (hy : L[k]? = some y) : lastE L (k + 1) = y := by
  show L.getD k _ = y
  rw [List.getD_eq_getElem?_getD, hy]; rfl
theorem lastE_bef {L : List Ent} (h : SrtE L) {k : Nat} {y : Ent} (hy : L[k]? = some y) (hk : 0 < k) : befK (lastE L k).p (lastE L k).v (lastE L k).c y.p y.v y.c = true := by
  obtain ⟨j, rfl⟩ : ∃ j, k = j + 1 := ⟨k - 1, by omega⟩
  obtain ⟨hk, rfl⟩ := List.getElem?_eq_some_iff.1 hy
  have h1 := List.pairwise_iff_getElem.1 h j (j + 1) (by omega) hk (by omega)
  have h2 : lastE L (j + 1) = L[j] := by rw [lastE_next (List.getElem?_eq_getElem (by omega))]
  rw [h2]; exact h1
end Go.Proofs.Ytfkahhkojlfmdaa
