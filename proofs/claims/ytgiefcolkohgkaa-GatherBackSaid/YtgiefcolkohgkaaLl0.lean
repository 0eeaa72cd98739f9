/- Lists of lists of bytes that are handed in. -/
import Derived.Test.YtgiefcolkohgkaaVd1
import Derived.Test.YtgiefcolkohgkaaBy0
set_option linter.unusedVariables false
set_option linter.unusedSimpArgs false
namespace Go.Proofs.Ytgiefcolkohgkaa
open Go.Vc Go.RowKit Go.ChangeShapes Go.WideShapes Go.ChangeAt
structure Tx where
  A : Option Addr
  n : Nat
  c : Nat
  bs : List Int
structure TxI (w : World) (x : Tx) : Prop where
  len : x.bs.length = x.n
  le : x.n ≤ x.c
  sl : Sl w w.heap.size x.A (iL .u8 x.bs)
  byt : Bytes x.bs
def TxsAt (w : World) (A : Option Addr) (n : Nat) (q : Nat → Tx) : Prop := (∀ i, TxI w (q i)) ∧ (0 < n → ∃ b o, A = some ⟨b, o, none⟩ ∧ b < w.heap.size ∧ ∀ i, i < n → w.cell? ⟨b, o + i, none⟩ = some (.slice (q i).A (q i).n (q i).c))
theorem wf_u8' {x : Int} (h : (Lit.int .u8 x).wf = true) : 0 ≤ x ∧ x < 256 := by
  have h0 : IntKind.u8.min = 0 := rfl
  have h1 : IntKind.u8.max = 255 := rfl
  simp [Lit.wf] at h
  omega
section
variable {H : Type} {enc : TypeId × Value → H} {P : Program} {w : World} {spare : Nat → Bool} {held : Bool}
theorem txs_of {e eb : TypeId} {A : Option Addr} {n f' : Nat} (he : P.underlying e = some (.slice eb)) (heb : P.underlying eb = some (.int .u8)) (hsz : P.cellsOf eb = 1) (h : 0 < n → ∃ b o, A = some ⟨b, o, none⟩ ∧ b < w.heap.size ∧ ∀ i, i < n → ∃ cs x, cs.length = 1 ∧ (∀ j, j < 1 → w.cell? ⟨b, o + i * 1 + j, none⟩ = cs[j]?) ∧ DataW.trod enc P w 0 spare held f' e cs = some x) :
    ∃ q, TxsAt w A n q := by
  by_cases hn : 0 < n
  · obtain ⟨b, o, rfl, hb, hc⟩ := h hn
    have hex : ∀ i, ∃ y : Tx, TxI w y ∧ (i < n → w.cell? ⟨b, o + i, none⟩ = some (.slice y.A y.n y.c)) := by
      intro i
      by_cases hi : i < n
      · obtain ⟨cs, x, hl, hr, hx⟩ := hc i hi
        obtain ⟨A, n, c, bs, hb, hnc, _, hbn, hbw, hsl⟩ := trod_nums he heb hsz hx
        subst hb
        refine ⟨⟨A, n, c, bs⟩, ⟨hbn, hnc, hsl, fun x hx => wf_u8' (hbw x hx)⟩, fun _ => ?_⟩
        have := hr 0 (by decide)
        simpa using this
      · exact ⟨⟨none, 0, 0, []⟩, ⟨rfl, Nat.le_refl _, Sl.nil, Bytes.nil⟩, fun h => absurd h hi⟩
    obtain ⟨q, hq⟩ := Classical.axiomOfChoice hex
    exact ⟨q, fun i => (hq i).1, fun _ => ⟨b, o, rfl, hb, fun i hi => (hq i).2 hi⟩⟩
  · exact ⟨fun _ => ⟨none, 0, 0, []⟩, fun _ => ⟨rfl, Nat.le_refl _, Sl.nil, Bytes.nil⟩, fun h0 => absurd h0 hn⟩
theorem open_txs {t e eb : TypeId} {v : Value} {d : DataW H} {ps : List MemPlace} (ht : P.underlying t = some (.slice e)) (he : P.underlying e = some (.slice eb)) (heb : P.underlying eb = some (.int .u8)) (hsz : P.cellsOf eb = 1) (hse : P.cellsOf e = 1) (h : DataW.Trod enc P w 0 spare held t v d ps) {rr : Reach} {b0 : Nat} (hval : Value.okWide P w rr b0 t v) :
    ∃ A n c q, v = .slice A n c ∧ n ≤ c ∧ TxsAt w A n q := by
  obtain ⟨f, hf⟩ := h
  obtain ⟨A0, n0, c0, rfl⟩ := okWide_slice ht hval
  obtain ⟨A, n, c, f', hv, h1, h2, h3⟩ := trod_slice ht hse (by decide) hf
  have hv2 : (Value.slice A0 n0 c0).cells.toList = [.slice A0 n0 c0] := rfl
  rw [hv2] at hv
  simp at hv
  obtain ⟨rfl, rfl, rfl⟩ := hv
  obtain ⟨q, hq⟩ := txs_of he heb hsz h3
  exact ⟨A0, n0, c0, q, rfl, h1, hq⟩
end
end Go.Proofs.Ytgiefcolkohgkaa
