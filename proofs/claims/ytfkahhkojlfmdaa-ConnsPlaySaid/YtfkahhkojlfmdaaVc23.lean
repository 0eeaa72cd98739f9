/- Drawn regions: rows of flat elements whose order is open. -/
import Derived.Test.YtfkahhkojlfmdaaVc19
import Derived.Test.YtfkahhkojlfmdaaVc22
set_option linter.unusedVariables false
set_option linter.unusedSimpArgs false
namespace Go.Vc
open Go.RowKit
section
variable {r : Option Nat} {n : Nat} {ds : List Deferred} {P : Program} {ops : Array Oper} {Q : Exit → Act → World → Prop} {l : List (Nat × Value)} {w : World}
theorem Det1_sliceZ {k d sz len cap H : Nat} {A : Option Addr} {hi : Option Int} (h : sliceOpA P n ops l k = some (d, A, sz, len, cap, none, hi, none)) (hd : dstOf ops k = some d) (hh : hi.getD len = (H : Int)) (h2 : H ≤ cap) : Det1 r n ds P ops Q w l k (.slice A H cap) := by
  refine V1_sliceA h (fun h => absurd rfl h) 0 H cap rfl hh rfl (by omega) h2 (Nat.le_refl _) ?_
  exact ⟨d, hd, by rw [look_head, Nat.zero_mul, movA_zero]; rfl, Step.refl _ _⟩
theorem Ex1_appendN {k d e m2 c2 sz bytes B : Nat} {A2 : Option Addr} {Bv : Value → World → Prop} (h : appOpS P n ops l k = some (d, e, none, 0, 0, A2, m2, c2)) (hd : dstOf ops k = some d) (hi : appInfo P e = some (sz, bytes)) (news : List Value) (hl : news.length = m2 * sz) (hnews : Sl w B A2 news) (h1 : ∀ u ∈ news, oneC u = true)
    (h63 : m2 ≤ maxLen) (hbytes : m2 * bytes ≤ 140737488355328) (hs : ∀ A' c' w', RwS w' sz w.heap.size e A' m2 c' news → Bv (.slice A' m2 c') w') : Ex1 r n ds P ops Q w l k Bv := by
  refine V1_appendZ h hi w.heap.size B [] news (RwS.nil _ _ _ _) hl hnews h1 (by omega) (by rw [Nat.zero_add]; exact hbytes) (Nat.le_refl _) fun A' c' w' hr hg => ⟨_, d, hd, look_head, Step.mono hg (fun i hi => by obtain ⟨a, h1, _⟩ := hi; cases h1), ?_⟩
  rw [Nat.zero_add] at hr ⊢
  exact hs A' c' w' hr
end
end Go.Vc
