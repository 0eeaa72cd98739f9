/- Layer 11: frames, one behind the other. -/
import Derived.Test.YtgiefcolkohgkaaGa6
import Derived.Test.YtgiefcolkohgkaaLl0
import Derived.Test.YtgiefcolkohgkaaVc20
set_option linter.unusedVariables false
set_option linter.unusedSimpArgs false
namespace Go.Proofs.Ytgiefcolkohgkaa
open Go.Vc Go.RowKit
def PkI (w : World) (bs : List Int) (n : Nat) (m : Int) (A : Option Addr) (N c : Nat) (e : Int) : Prop :=
  e ≠ 0 ∨ (e = 0 ∧ 0 < n ∧ n ≤ 1000 ∧ N = 48 * manyN n ∧ N ≤ c ∧ (frameF bs m).length = 48 * manyN n ∧ SlX w 5 (fun _ => True) A (iL .u8 (frameF bs m)))
theorem PkI.no {w w' : World} {bs : List Int} {n : Nat} {m : Int} {A : Option Addr} {N c : Nat} {e : Int} (h : PkI w bs n m A N c e) (hs : Step No w w') : PkI w' bs n m A N c e :=
  h.imp id fun ⟨h1, h2, h3, h4, h5, h6, h7⟩ => ⟨h1, h2, h3, h4, h5, h6, h7.no hs⟩
theorem pack_all (A : Option Addr) (n c Bd : Nat) (bs : List Int) (w : World) (hn : bs.length = n) (hA : Sl w Bd A (iL .u8 bs)) (m : Int) (hBd : Bd ≤ w.heap.size) :
    CV Try.prog 20 #[.slice A n c, .int .u8 m] w (fun x w1 => ∃ A' N c' e, x = .tuple #[.slice A' N c', .int .i64 e] ∧ PkI w1 bs n m A' N c' e ∧ Step No w w1) := by
  by_cases h0 : n = 0
  · refine CV.mono (pack_0 A n c Bd bs w hn hA m hBd h0) ?_
    rintro x w1 ⟨rfl, hs⟩
    exact ⟨none, 0, 0, 1, rfl, .inl (by decide), hs⟩
  · by_cases h1 : n ≤ 1000
    · refine CV.mono (pack_yes A n c Bd bs w hn hA m hBd (by omega) h1) ?_
      rintro x w1 ⟨g, c', rfl, hg, hr, hs⟩
      exact ⟨_, _, _, 0, rfl, .inr ⟨rfl, by omega, h1, rfl, Rw.cap hr, Rw.lenI hr, SlX.of_rw hr fun _ _ => trivial⟩, hs⟩
    · refine CV.mono (pack_long A n c Bd bs w hn hA m hBd (by omega)) ?_
      rintro x w1 ⟨rfl, hs⟩
      exact ⟨none, 0, 0, 6, rfl, .inl (by decide), hs⟩
structure IdleG (W : Int) (g : Ga) : Prop where
  bs : g.bs = []
  sk : g.sk = false
  lost : g.lost = 0
  wait : g.wait = W
  gi : GaI g 0
theorem idle_new {m : Int} (h0 : 1 ≤ m) (h1 : m ≤ 1152921504606846976) : IdleG m (newG m) := ⟨rfl, rfl, rfl, newG_wait h0 h1, GaI.new _⟩
theorem IdleG.rdy {W : Int} {g : Ga} (h : IdleG W g) (hW : 0 < W) (t : Int) : RdyG g t := rdy_idle h.bs h.sk (by rw [h.wait]; exact hW)
theorem idle_feed {W : Int} {g : Ga} (h : IdleG W g) (hW : 0 < W) {t : Int} (h0 : 0 ≤ t) (h1 : t ≤ 1152921504606846976) {ts : List Int} {mk : Int} (l0 : 0 < ts.length) (l1 : ts.length ≤ 1000) (hb : Bytes ts) (hm : 0 ≤ mk ∧ mk < 256) {n K : Nat} (hF : (frameF ts mk).length = n) (hn : n ≤ 1008) (hK : n = 48 * K) (hK0 : 0 < K) : IdleG W (feedG g t (frameF ts mk) (flF n) K) := by
  have hr := h.rdy hW t
  have ho := feed_done hr hF hn hK hK0
  have hl := ho.good (frame_un (m := mk) l0 l1 hb hm).1
  rw [tick_idle h.bs, h.lost] at hl
  have hi := feed_I (t := t) h.gi hF (frame_bytes hb hm) h0 h1 (flF n) K (by omega)
  exact ⟨ho.bs, ho.sk, hl, by rw [ho.wait, h.wait], ⟨by rw [ho.bs]; exact ⟨0, by omega, rfl⟩, by rw [ho.bs]; exact Bytes.nil, hi.b0, hi.b1, by rw [hl]; decide, by rw [hl]; decide⟩⟩
theorem MarksI_ga {w w' : World} {lo hi : Nat} {Ds : List Nat} {T p : Nat} {X : Nat → Prop} {g : Ga} (h : MarksI w lo hi Ds) (hg : GaOf w T p X g) (hs : Step (Just p) w w') : MarksI w' lo hi Ds := by
  obtain ⟨A, c, ho, hv, hc⟩ := hg
  exact h.own ho hs
end Go.Proofs.Ytgiefcolkohgkaa
