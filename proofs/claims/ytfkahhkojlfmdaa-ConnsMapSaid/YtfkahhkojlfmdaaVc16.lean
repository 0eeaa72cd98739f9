/- Slices of a view whose address is of any kind: the result is a view again. -/
import Derived.Test.YtfkahhkojlfmdaaVc15
set_option linter.unusedVariables false
set_option linter.unusedSimpArgs false
namespace Go.Vc
open Go.RowKit
theorem movA_zero (A : Option Addr) (b : Bool) : movA A b 0 = A := by
  cases A with
  | none => rfl
  | some a => cases b <;> rfl
theorem Sl.mov {w : World} {B L H M sz : Nat} {A : Option Addr} {xs : List Value} (h : Sl w B A xs) (hM : H ≤ M) : Sl w B (movA A (decide (M = L)) (L * sz)) ((xs.drop (L * sz)).take ((H - L) * sz)) := by
  intro h0
  have h1 : 0 < xs.length := by simp at h0; omega
  obtain ⟨b, o, rfl, hb⟩ := h.open h1
  by_cases e : M = L
  · exfalso
    have : H - L = 0 := by omega
    rw [this, Nat.zero_mul, List.take_zero] at h0
    simp at h0
  · have hm : movA (some ⟨b, o, none⟩) (decide (M = L)) (L * sz) = some ⟨b, o + L * sz, none⟩ := by simp [movA, e, add_none]
    rw [hm]
    exact h.sub (L * sz) ((H - L) * sz) h0 |> fun ⟨b', o', hA, hb', hc⟩ => ⟨b', o', hA, hb', hc⟩
section
variable {r : Option Nat} {n : Nat} {ds : List Deferred} {P : Program} {ops : Array Oper} {Q : Exit → Act → World → Prop} {tbl : List (List Nat)} {m : Nat} {l : List (Nat × Value)} {R : World → World → Prop} {ch : List Nat} {w : World} {i : Nat}
theorem VT_sliceV {k d sz len cap B : Nat} {A : Option Addr} {xs : List Value} {lo hi mx : Option Int} {is : List Nat} {kn : List (Nat × Value)} (h : sliceOpA P n ops (lkn ops tbl m l kn k) k = some (d, A, sz, len, cap, lo, hi, mx)) (hd : dstOf ops k = some d) (hno : mx ≠ none → hi ≠ none) (hA : Sl w B A xs) (L H M : Nat)
    (hl : lo.getD 0 = L) (hh : hi.getD len = H) (hm : mx.getD cap = M) (h1 : L ≤ H) (h2 : H ≤ M) (h3 : M ≤ cap) (N : Nat) (hN : H - L = N) (C : Nat) (hC : M - L = C) (ys : List Value) (hy : (xs.drop (L * sz)).take (N * sz) = ys) (next : ∀ A', Sl w B A' ys → VT r n ds P ops Q tbl m l R ch is ((k, .slice A' N C) :: kn) w) : VT r n ds P ops Q tbl m l R ch (k :: is) kn w := by
  subst hN; subst hC; subst hy
  exact VT_sliceA h hd hno L H M hl hh hm h1 h2 h3 _ rfl _ rfl (next _ (hA.mov h2))
theorem VL_sliceV {d sz len cap B : Nat} {A : Option Addr} {xs : List Value} {lo hi mx : Option Int} (h : sliceOpA P n ops l i = some (d, A, sz, len, cap, lo, hi, mx)) (hi' : Nat.blt i ops.size = true) (hno : mx ≠ none → hi ≠ none) (hA : Sl w B A xs) (L H M : Nat)
    (hl : lo.getD 0 = L) (hh : hi.getD len = H) (hm : mx.getD cap = M) (h1 : L ≤ H) (h2 : H ≤ M) (h3 : M ≤ cap) (N : Nat) (hN : H - L = N) (C : Nat) (hC : M - L = C) (ys : List Value) (hy : (xs.drop (L * sz)).take (N * sz) = ys) (next : ∀ A', Sl w B A' ys → VL r n ds P ops Q (i + 1) ((d, .slice A' N C) :: l) w) : VL r n ds P ops Q i l w := by
  subst hN; subst hC; subst hy
  exact VL_sliceA h hi' hno L H M hl hh hm h1 h2 h3 _ rfl _ rfl (next _ (hA.mov h2))
end
theorem iL_dropTake {k : IntKind} (bs : List Int) (L N : Nat) : ((iL k bs).drop (L * 1)).take (N * 1) = iL k ((bs.drop L).take N) := by rw [iL_take, iL_drop, Nat.mul_one, Nat.mul_one]
theorem iL_takeV {k : IntKind} (bs : List Int) (N : Nat) : ((iL k bs).drop (0 * 1)).take (N * 1) = iL k (bs.take N) := by rw [iL_take, Nat.zero_mul, Nat.mul_one, List.drop_zero]
end Go.Vc
