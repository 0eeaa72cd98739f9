/- Drawn regions: new rows whose order is open. -/
import Derived.Test.YtfkahhkojlfmdaaVc18
set_option linter.unusedVariables false
set_option linter.unusedSimpArgs false
namespace Go.Vc
open Go.RowKit
section
variable {r : Option Nat} {n : Nat} {ds : List Deferred} {P : Program} {ops : Array Oper} {Q : Exit → Act → World → Prop} {l : List (Nat × Value)} {w : World}
theorem Ex1_bs {k d : Nat} {e : TypeId} {c : Array Value} {len : Nat} {B : Value → World → Prop} (h : bsOp P n ops l k = some (d, e, c, len)) (hd : dstOf ops k = some d) (hs : ∀ b w1, New w w1 b (.cells c e) → B (.slice (some ⟨b, 0, none⟩) len len) w1) : Ex1 r n ds P ops Q w l k B :=
  V1_bs h fun b w1 hn => ⟨_, d, hd, look_head, hn.step No, hs b w1 hn⟩
end
end Go.Vc
