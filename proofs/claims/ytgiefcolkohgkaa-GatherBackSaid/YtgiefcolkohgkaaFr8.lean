/- Layer 10: contracts as the laws use them. -/
import Derived.Test.YtgiefcolkohgkaaFr4
import Derived.Test.YtgiefcolkohgkaaFr7
set_option linter.unusedVariables false
set_option linter.unusedSimpArgs false
namespace Go.Proofs.Ytgiefcolkohgkaa
open Go.Vc
theorem unT_le (bs : List Int) : (unT bs).length ≤ bs.length := by
  unfold unT
  split
  · simp; omega
  · simp
/-- A frame is unpacked. -/
theorem unpack_frame (A : Option Addr) (n c Bd : Nat) (ts : List Int) (m : Int) (N : Nat) (w : World) (hn : (frameF ts m).length = n) (hA : Sl w Bd A (iL .u8 (frameF ts m))) (hN : ts.length = N) (h0 : 0 < N) (h1 : N ≤ 1000) (hb : Bytes ts) (hm : 0 ≤ m ∧ m < 256) (hBd : Bd ≤ w.heap.size) (hlen : n ≤ 10000) (hc : n ≤ c) :
    CV Try.prog 25 #[.slice A n c] w (fun x w1 => ∃ A' c', x = .tuple #[.slice A' N c', .int .u8 m, .int .i64 0] ∧ Rw w1 w.heap.size 5 A' N c' (iL .u8 ts) ∧ Step No w w1) := by
  obtain ⟨e0, e1, e2⟩ := frame_un (m := m) (show 0 < ts.length by omega) (by omega) hb hm
  refine CV.mono (unpack_any A n c Bd (frameF ts m) w hn hA (frame_bytes hb hm) hBd hlen hc) ?_
  rintro x w1 ⟨A', c', rfl, hr, hs⟩
  rw [e1, hN] at hr
  exact ⟨A', c', by rw [e0, e1, e2, hN], hr, hs⟩
end Go.Proofs.Ytgiefcolkohgkaa
