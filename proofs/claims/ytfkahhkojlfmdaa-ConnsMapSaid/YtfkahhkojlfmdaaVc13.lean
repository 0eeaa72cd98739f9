/- More rules for slices: an address of any kind; copy in a region that draws its order. -/
import Derived.Test.YtfkahhkojlfmdaaVc12
set_option linter.unusedVariables false
set_option linter.unusedSimpArgs false
namespace Go.Vc
open Go.RowKit
section
variable {r : Option Nat} {n : Nat} {ds : List Deferred} {P : Program} {ops : Array Oper} {Q : Exit → Act → World → Prop} {tbl : List (List Nat)} {m : Nat} {l : List (Nat × Value)} {R : World → World → Prop} {ch : List Nat} {w : World} {i : Nat} {K : List (Nat × Value) → World → Prop}
theorem VTc_copyR {k d b o dl sl B base nn c : Nat} {A2 : Option Addr} {kd : IntKind} {bs vs : List Int} {e : TypeId} {is : List Nat} {kn : List (Nat × Value)} (h : copyOpS P n ops (lkn ops tbl m l kn k) k = some (d, b, o, dl, A2, sl)) (hd : dstOf ops k = some d) (hvs : vs.length = sl) (hle : sl ≤ dl) (hsrc : Sl w B A2 (iL kd vs))
    (hRw : Rw w base e (some ⟨b, 0, none⟩) nn c (iL kd bs)) (hsz : o + sl ≤ nn) (hR : ∀ w1, Step (Just b) w w1 → R w w1)
    (next : ∀ w1, Rw w1 base e (some ⟨b, 0, none⟩) nn c (iL kd (putL bs o vs)) → Step (Just b) w w1 → w1.heap.size = w.heap.size → VT r n ds P ops Q tbl m l R ch is ((k, .int .i64 (sl : Int)) :: kn) w1) : VTc r n ds P ops Q tbl m l R ch k is kn w := by
  obtain ⟨cur, hb, hl, ho, h1, h2, h3, h4⟩ := hRw.openG
  exact V1_copyS h (iL kd vs) (by simpa using hvs) hle hsrc iL_one ho (by simp; omega) fun w1 hw => ⟨hR w1 hw.step, .inl ⟨_, d, hd, look_head, next w1 (Rw.copyI h4 hw hb h1 h2 h3 (by omega)) hw.step hw.same⟩⟩
def sliceOpA (P : Program) (n : Nat) (ops : Array Oper) (l : List (Nat × Value)) (i : Nat) : Option (Nat × Option Addr × Nat × Nat × Nat × Option Int × Option Int × Option Int) :=
  match theOp ops l i with
  | some { dst := some d, op := .slice t x lo hi mx, .. } =>
    match optInt l lo, optInt l hi, optInt l mx with
    | some lo, some hi, some mx => match P.underlying t, evL l x with
      | some (.slice elem), .slice A len cap => match (P.info? elem).map (·.size) with
        | some sz => bif Nat.blt d n then some (d, A, sz, len, cap, lo, hi, mx) else none
        | none => none
      | _, _ => none
    | _, _, _ => none
  | _ => none
def movA (A : Option Addr) (b : Bool) (k : Nat) : Option Addr := A.map fun a => bif b then a else a.add k
theorem V1_sliceA {d sz len cap : Nat} {A : Option Addr} {lo hi mx : Option Int} (h : sliceOpA P n ops l i = some (d, A, sz, len, cap, lo, hi, mx)) (hno : mx ≠ none → hi ≠ none) (L H M : Nat)
    (hl : lo.getD 0 = L) (hh : hi.getD len = H) (hm : mx.getD cap = M) (h1 : L ≤ H) (h2 : H ≤ M) (h3 : M ≤ cap) (next : K ((d, .slice (movA A (decide (M = L)) (L * sz)) (H - L) (M - L)) :: l) w) : V1 r n ds P ops Q i l w K := by
  unfold sliceOpA at h
  split at h
  · rename_i _ d' t x lo' hi' mx' ty pos aft gd ho
    split at h
    · rename_i loi hii mxi hlo hhi hmx
      split at h
      · rename_i elem A' len' cap' hu hx
        split at h
        · rename_i sz' hsz
          cases hb : Nat.blt d' n with
          | false => rw [hb] at h; cases h
          | true =>
            rw [hb] at h
            simp only [cond_true, Option.some.injEq, Prod.mk.injEq] at h
            obtain ⟨rfl, rfl, rfl, rfl, rfl, rfl, rfl, rfl⟩ := h
            obtain ⟨inf, hinf, hs⟩ := Option.map_eq_some_iff.1 hsz
            refine V1_value ho rfl hb ?_ next
            simp only [execOp, Instr.sliceAt, Instr.slice, hx, Sem.run_bind, run_underlying' hu, Result.andThen_ok, Sem.run_pure, run_sliceBounds (w := w) (P := P) hlo hhi hmx hno L H M hl hh hm h1 h2 h3, run_sizeOf hinf, hs, add_none, movA]
            cases A' <;> by_cases e : M = L <;> simp [e]
        · cases h
      · cases h
    · cases h
  · cases h
theorem VT_sliceA {k d sz len cap : Nat} {A : Option Addr} {lo hi mx : Option Int} {is : List Nat} {kn : List (Nat × Value)} (h : sliceOpA P n ops (lkn ops tbl m l kn k) k = some (d, A, sz, len, cap, lo, hi, mx)) (hd : dstOf ops k = some d) (hno : mx ≠ none → hi ≠ none) (L H M : Nat)
    (hl : lo.getD 0 = L) (hh : hi.getD len = H) (hm : mx.getD cap = M) (h1 : L ≤ H) (h2 : H ≤ M) (h3 : M ≤ cap) (N : Nat) (hN : H - L = N) (C : Nat) (hC : M - L = C) (next : VT r n ds P ops Q tbl m l R ch is ((k, .slice (movA A (decide (M = L)) (L * sz)) N C) :: kn) w) : VT r n ds P ops Q tbl m l R ch (k :: is) kn w := by
  subst hN; subst hC
  exact VT_float _ (fun w' hR => V1_sliceA h hno L H M hl hh hm h1 h2 h3 ⟨⟨d, hd, look_head⟩, Step.refl _ _⟩) next
theorem VL_sliceA {d sz len cap : Nat} {A : Option Addr} {lo hi mx : Option Int} (h : sliceOpA P n ops l i = some (d, A, sz, len, cap, lo, hi, mx)) (hi' : Nat.blt i ops.size = true) (hno : mx ≠ none → hi ≠ none) (L H M : Nat)
    (hl : lo.getD 0 = L) (hh : hi.getD len = H) (hm : mx.getD cap = M) (h1 : L ≤ H) (h2 : H ≤ M) (h3 : M ≤ cap) (N : Nat) (hN : H - L = N) (C : Nat) (hC : M - L = C) (next : VL r n ds P ops Q (i + 1) ((d, .slice (movA A (decide (M = L)) (L * sz)) N C) :: l) w) : VL r n ds P ops Q i l w := by
  subst hN; subst hC
  exact VL_of_V1 hi' (V1_sliceA h hno L H M hl hh hm h1 h2 h3 next)
end
end Go.Vc
