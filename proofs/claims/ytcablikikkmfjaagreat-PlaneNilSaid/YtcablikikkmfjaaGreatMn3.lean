import Derived.Laws.Strings
import Derived.Test.YtcablikikkmfjaaGreatProg
import Derived.Test.YtcablikikkmfjaaGreatMn2
section
/- Layer 21 and 14 in plain Lean: what a maintenance cell tells, what an alarm knows. -/
set_option linter.unusedVariables false
set_option linter.unusedSimpArgs false
namespace Go.Proofs.YtcablikikkmfjaaGreat
open Go.Vc

def held (t : Int) : Int := imax 0 (imin t 1152921504606846976)
theorem held_bd (t : Int) : 0 ≤ held t ∧ held t ≤ 1152921504606846976 := by unfold held; rw [imax_eq, imin_eq]; omega
def inByte (p : Nat → Int) : Prop := ∀ i, 0 ≤ p i ∧ p i < 256
/-- What a maintenance cell tells. -/
structure Om where
  k : Int
  d : Int
  a : Bool
  tg : Int
  p : Nat → Int
  s : Nat → Int
def omL (o : Om) : List Value := [.int .i64 o.k, .int .u8 o.d, .bool o.a, .int .u32 o.tg,
  .int .u8 (o.p 0), .int .u8 (o.p 1), .int .u8 (o.p 2), .int .u8 (o.p 3), .int .u8 (o.p 4), .int .u8 (o.p 5), .int .u8 (o.p 6), .int .u8 (o.p 7), .int .u8 (o.p 8), .int .u8 (o.p 9), .int .u8 (o.p 10), .int .u8 (o.p 11), .int .u8 (o.p 12), .int .u8 (o.p 13), .int .u8 (o.p 14), .int .u8 (o.p 15),
  .int .u8 (o.s 0), .int .u8 (o.s 1), .int .u8 (o.s 2), .int .u8 (o.s 3), .int .u8 (o.s 4), .int .u8 (o.s 5), .int .u8 (o.s 6), .int .u8 (o.s 7), .int .u8 (o.s 8), .int .u8 (o.s 9), .int .u8 (o.s 10), .int .u8 (o.s 11), .int .u8 (o.s 12), .int .u8 (o.s 13), .int .u8 (o.s 14), .int .u8 (o.s 15)]
/-- What an alarm knows. -/
structure Al where
  ah : Int
  bh : Int
  here : Nat → Int
  wt : Int
  dn : Bool
def alC (s : Al) : Array Value := #[.int .i64 s.ah, .int .i64 s.bh, .int .u8 (s.here 0), .int .u8 (s.here 1), .int .u8 (s.here 2), .int .u8 (s.here 3), .int .u8 (s.here 4), .int .u8 (s.here 5), .int .u8 (s.here 6), .int .u8 (s.here 7), .int .u8 (s.here 8), .int .u8 (s.here 9), .int .u8 (s.here 10), .int .u8 (s.here 11), .int .u8 (s.here 12), .int .u8 (s.here 13), .int .u8 (s.here 14), .int .u8 (s.here 15), .int .i64 s.wt, .bool s.dn]
def newA (here : Nat → Int) (wait : Int) : Al := ⟨0, 0, here, imax 1 (held wait), false⟩
def userA (s : Al) : Al := { s with ah := 0 }
def downA (s : Al) (b : Bool) : Al := { s with dn := b }
def waits (s : Al) : Prop := 1 ≤ s.wt ∧ s.wt ≤ 1152921504606846976
theorem newA_waits (h : Nat → Int) (x : Int) : waits (newA h x) := by have := held_bd x; unfold waits newA; simp only [imax_eq]; omega
/-- What happens. -/
structure AlOpA where
  do_ : Int
  t : Int
  o : Om
/-! ### Ends of walks -/
/-! ### A row of bytes 255 -/
def Fil (w : World) (b T N m : Nat) : Prop := ∃ c : Array Value, Own w b c T ∧ c.size = N ∧ ∀ j, j < m → c[j]? = some (.int .u8 255)
theorem Fil.copy {w w1 : World} {b T N m k : Nat} {c : Array Value} (hsz : c.size = N) (hc : ∀ j, j < m → c[j]? = some (.int .u8 255)) (hle : m + k ≤ N) (hwr : Wr w w1 b (setRow c m (List.replicate k (.int .u8 255))) T) : Fil w1 b T N (m + k) := by
  refine ⟨_, hwr.own, by rw [Go.Vc.size_setRow]; exact hsz, fun j hj => ?_⟩
  rw [Go.Vc.getElem?_setRow _ _ _ (by simp; omega)]
  by_cases h : m ≤ j
  · rw [if_pos ⟨h, by simp; omega⟩, List.getElem?_replicate, if_pos (by omega)]
  · rw [if_neg (by omega), hc j (by omega)]
theorem Fil.one {w w1 : World} {b T N : Nat} {c : Array Value} (hsz : c.size = N) (hle : 1 ≤ N) (hwr : Wr w w1 b (setRow c 0 [.int .u8 255]) T) : Fil w1 b T N 1 := by
  have := Fil.copy (m := 0) (k := 1) hsz (fun j hj => absurd hj (by omega)) (by omega) hwr
  simpa using this
theorem Fil.step {w w1 : World} {b T N m : Nat} (h : Fil w b T N m) (hs : Step No w w1) : Fil w1 b T N m := by
  obtain ⟨c, h1, h2⟩ := h
  exact ⟨c, h1.no hs, h2⟩
theorem Fil.lt {w : World} {b T N m : Nat} (h : Fil w b T N m) : b < w.heap.size := by
  obtain ⟨c, h1, _⟩ := h
  exact h1.lt
theorem Fil.cell {w : World} {b T N m : Nat} (h : Fil w b T N m) {j : Nat} (hj : j < m) : w.cell? ⟨b, j, none⟩ = some (.int .u8 255) := by
  obtain ⟨c, h1, _, h3⟩ := h
  exact (h1.cell j).trans (h3 j hj)
/-- Copying more of it. -/
def RFil (b T N m k : Nat) (x y : World) : Prop := (Fil x b T N m → Fil y b T N m) ∧ (Fil x b T N (m + k) → Fil y b T N (m + k)) ∧ Step (Just b) x y
theorem RFil.refl (b T N m k : Nat) (x : World) : RFil b T N m k x x := ⟨id, id, Step.refl _ _⟩
theorem RFil.trans {b T N m k : Nat} {x y z : World} (h : RFil b T N m k x y) (h' : RFil b T N m k y z) : RFil b T N m k x z := ⟨h'.1 ∘ h.1, h'.2.1 ∘ h.2.1, h.2.2.trans h'.2.2⟩
end Go.Proofs.YtcablikikkmfjaaGreat
end

section
/- What the functions of packages oam and alarm do, one by one. -/
set_option linter.unusedVariables false
set_option linter.unusedSimpArgs false
set_option maxRecDepth 100000
set_option maxHeartbeats 4000000
namespace Go.Proofs.YtcablikikkmfjaaGreat
open Go.Vc Go.RowKit
theorem TAl1ab {P : Prop} (h : P := by intro i hi; first | exact hi | exact ⟨_, by assumption, hi⟩ | (have hi9 : i = b := hi; (first | show _ ∨ _ | show _ = _); omega)) : P := h

theorem held_any (t : Int) (w : World) :
  CV Tryz.prog 116 #[.int .i64 t] w (fun x w1 => x = .int .i64 (held t) ∧ Step No w w1) := by
 have hS : Step No w w := Step.refl _ _
 refine CV_enter Tryz.f116 _ 6 [(0, .int .i64 t)] Tryz.func116 rfl rfl (by kernel_rfl) rfl ?_
 refine VC_seq ?_
 refine VC_region ?_
 refine VL_pure 1 [0] [(0, .int .i64 t)] (by kernel_rfl) rfl ?_
 refine VL_end (by kernel_rfl) ?_
 refine VQ_next ?_
 refine VC_seq ?_
 refine VC_region ?_
 refine VL_pure 4 [2] [(2, .int .i64 (imax 0 (imin t 1152921504606846976)))] (by kernel_rfl) rfl ?_
 refine VL_end (by kernel_rfl) ?_
 refine VQ_next ?_
 refine VC_ret ?_
 refine VQ_ret1 (.int .i64 (imax 0 (imin t 1152921504606846976))) (.inr rfl) rfl rfl ?_
 exact ⟨rfl, hS⟩

theorem alnew_any (here : Nat → Int) (wait : Int) (w : World) :
  CV Tryz.prog 59 #[.agg #[.int .u8 (here 0), .int .u8 (here 1), .int .u8 (here 2), .int .u8 (here 3), .int .u8 (here 4), .int .u8 (here 5), .int .u8 (here 6), .int .u8 (here 7), .int .u8 (here 8), .int .u8 (here 9), .int .u8 (here 10), .int .u8 (here 11), .int .u8 (here 12), .int .u8 (here 13), .int .u8 (here 14), .int .u8 (here 15)], .int .i64 wait] w (fun x w1 => ∃ b, x = .pointer (some ⟨b, 0, none⟩) ∧ ¬ b < w.heap.size ∧ Own w1 b (alC (newA here wait)) 254 ∧ Step No w w1) := by
 have hS : Step No w w := Step.refl _ _
 refine CV_enter Tryz.f59 _ 11 [(0, .agg #[.int .u8 (here 0), .int .u8 (here 1), .int .u8 (here 2), .int .u8 (here 3), .int .u8 (here 4), .int .u8 (here 5), .int .u8 (here 6), .int .u8 (here 7), .int .u8 (here 8), .int .u8 (here 9), .int .u8 (here 10), .int .u8 (here 11), .int .u8 (here 12), .int .u8 (here 13), .int .u8 (here 14), .int .u8 (here 15)]), (1, .int .i64 wait)] Tryz.func59 rfl rfl (by kernel_rfl) rfl ?_
 refine VC_seq ?_
 refine VC_region ?_
 refine VL_box (d := 2) (t := 142) (c := #[.int .u8 (here 0), .int .u8 (here 1), .int .u8 (here 2), .int .u8 (here 3), .int .u8 (here 4), .int .u8 (here 5), .int .u8 (here 6), .int .u8 (here 7), .int .u8 (here 8), .int .u8 (here 9), .int .u8 (here 10), .int .u8 (here 11), .int .u8 (here 12), .int .u8 (here 13), .int .u8 (here 14), .int .u8 (here 15)]) (by kernel_rfl) (by kernel_rfl) ?_
 intro b1 w1 hn1
 replace hS := Step.trans hS (hn1.step No)
 have ho1 := hn1.own
 have hzhn1 := hn1.size
 have hqhn1 := hn1.eqb
 refine VL_pure 2 [1, 2] [(1, .int .i64 wait), (2, .pointer (some ⟨b1, 0, none⟩))] (by kernel_rfl) rfl ?_
 refine VL_end (by kernel_rfl) ?_
 refine VQ_next ?_
 refine VC_seq ?_
 refine VC_det [[], [], [1], [1, 2], [0, 1, 2, 3], [0, 1, 2, 3, 4], [0, 1, 2, 3, 4, 5]] 4 [.agg #[.int .u8 (here 0), .int .u8 (here 1), .int .u8 (here 2), .int .u8 (here 3), .int .u8 (here 4), .int .u8 (here 5), .int .u8 (here 6), .int .u8 (here 7), .int .u8 (here 8), .int .u8 (here 9), .int .u8 (here 10), .int .u8 (here 11), .int .u8 (here 12), .int .u8 (here 13), .int .u8 (here 14), .int .u8 (here 15)], .int .i64 wait, .int .i64 (held wait), .int .i64 (imax 1 (held wait))] [1, 3] [0, 2] (by kernel_rfl) (by kernel_rfl) (by kernel_rfl) (by kernel_rfl) ?_ ?_
 ·intro w2 hs1
  replace ho1 := ho1.no hs1
  exact ⟨Det1_load (d := 5) (t := 142) (a := ⟨b1, 0, none⟩) (by kernel_rfl) (by kernel_rfl) (Loads.ownL ho1 (n := 16) (by kernel_rfl) (by kernel_rfl) (by kernel_rfl)), Det1_call (d := 7) (f := 116) (args := #[.int .i64 wait]) (by kernel_rfl) (by kernel_rfl) (by kernel_rfl) Tryz.call116 (by exact held_any _ _), trivial⟩
 intro w2 hs1
 replace hS := Step.trans hS hs1
 replace ho1 := ho1.no hs1
 refine VL_keep [5, 8] [(5, .agg #[.int .u8 (here 0), .int .u8 (here 1), .int .u8 (here 2), .int .u8 (here 3), .int .u8 (here 4), .int .u8 (here 5), .int .u8 (here 6), .int .u8 (here 7), .int .u8 (here 8), .int .u8 (here 9), .int .u8 (here 10), .int .u8 (here 11), .int .u8 (here 12), .int .u8 (here 13), .int .u8 (here 14), .int .u8 (here 15)]), (8, .int .i64 (imax 1 (held wait)))] (by kernel_rfl) ?_
 refine VL_pure 5 [9] [(9, .agg #[.int .i64 0, .int .i64 0, .int .u8 (here 0), .int .u8 (here 1), .int .u8 (here 2), .int .u8 (here 3), .int .u8 (here 4), .int .u8 (here 5), .int .u8 (here 6), .int .u8 (here 7), .int .u8 (here 8), .int .u8 (here 9), .int .u8 (here 10), .int .u8 (here 11), .int .u8 (here 12), .int .u8 (here 13), .int .u8 (here 14), .int .u8 (here 15), .int .i64 (imax 1 (held wait)), .bool false])] (by kernel_rfl) rfl ?_
 have hzl1 := ho1.lt
 refine VL_box (d := 10) (t := 254) (c := #[.int .i64 0, .int .i64 0, .int .u8 (here 0), .int .u8 (here 1), .int .u8 (here 2), .int .u8 (here 3), .int .u8 (here 4), .int .u8 (here 5), .int .u8 (here 6), .int .u8 (here 7), .int .u8 (here 8), .int .u8 (here 9), .int .u8 (here 10), .int .u8 (here 11), .int .u8 (here 12), .int .u8 (here 13), .int .u8 (here 14), .int .u8 (here 15), .int .i64 (imax 1 (held wait)), .bool false]) (by kernel_rfl) (by kernel_rfl) ?_
 intro b2 w3 hn2
 replace hS := Step.trans hS (hn2.step No)
 have ho2 := hn2.own
 have hzhn2 := hn2.size
 have hqhn2 := hn2.eqb
 refine VL_pure 7 [4] [(4, .pointer (some ⟨b2, 0, none⟩))] (by kernel_rfl) rfl ?_
 refine VL_end (by kernel_rfl) ?_
 refine VQ_next ?_
 refine VC_ret ?_
 refine VQ_ret1 (.pointer (some ⟨b2, 0, none⟩)) (.inr rfl) rfl rfl ?_
 exact ⟨_, rfl, by omega, ho2, hS⟩

theorem over_any (b : Nat) (s : Al) (w : World) (ht : Own w b (alC s) 254) :
  CV Tryz.prog 196 #[Pt b 0] w (fun x w1 => x = .tuple #[] ∧ Own w1 b (alC (userA s)) 254 ∧ Step (Just b) w w1) := by
 have hS : Step (Just b) w w := Step.refl _ _
 refine VCe Tryz.func196 (Vr (Vst 3 (o := 0) [I6 0] ht #[I6 0, I6 s.bh, .int .u8 (s.here 0), .int .u8 (s.here 1), .int .u8 (s.here 2), .int .u8 (s.here 3), .int .u8 (s.here 4), .int .u8 (s.here 5), .int .u8 (s.here 6), .int .u8 (s.here 7), .int .u8 (s.here 8), .int .u8 (s.here 9), .int .u8 (s.here 10), .int .u8 (s.here 11), .int .u8 (s.here 12), .int .u8 (s.here 13), .int .u8 (s.here 14), .int .u8 (s.here 15), I6 s.wt, Bo s.dn] ?_))
 intro w1 hw1
 replace hS := Step.trans hS (Step.mono hw1.step TAl1ab)
 have ho1 := hw1.own
 refine Ve (Vr0 ?_)
 exact ⟨rfl, ho1, hS⟩

theorem user_any (b : Nat) (s : Al) (w : World) (ht : Own w b (alC s) 254) (t : Int) :
  CV Tryz.prog 126 #[Pt b 0, I6 t] w (fun x w1 => x = .tuple #[] ∧ Own w1 b (alC (userA s)) 254 ∧ Step (Just b) w w1) := by
 have hS : Step (Just b) w w := Step.refl _ _
 refine VCe Tryz.func126 (Vrp (Vt (Vr (Vp 3 ?_))))
 refine Vc 3 Tryz.call196 (over_any b s _ ht) ?_
 rintro _ w1 ⟨rfl, ht1, hc1⟩
 replace hS := Step.trans hS (Step.mono hc1 TAl1ab)
 refine Ve (Vr0 ?_)
 exact ⟨rfl, ht1, hS⟩

theorem down_any (b : Nat) (s : Al) (w : World) (ht : Own w b (alC s) 254) (is : Bool) :
  CV Tryz.prog 60 #[Pt b 0, Bo is] w (fun x w1 => x = .tuple #[] ∧ Own w1 b (alC (downA s is)) 254 ∧ Step (Just b) w w1) := by
 have hS : Step (Just b) w w := Step.refl _ _
 refine VCe Tryz.func60 (Vrp (Vt (Vr (Vst 4 (o := 19) [Bo is] ht #[I6 s.ah, I6 s.bh, .int .u8 (s.here 0), .int .u8 (s.here 1), .int .u8 (s.here 2), .int .u8 (s.here 3), .int .u8 (s.here 4), .int .u8 (s.here 5), .int .u8 (s.here 6), .int .u8 (s.here 7), .int .u8 (s.here 8), .int .u8 (s.here 9), .int .u8 (s.here 10), .int .u8 (s.here 11), .int .u8 (s.here 12), .int .u8 (s.here 13), .int .u8 (s.here 14), .int .u8 (s.here 15), I6 s.wt, Bo is] ?_))))
 intro w1 hw1
 replace hS := Step.trans hS (Step.mono hw1.step TAl1ab)
 have ho1 := hw1.own
 refine Ve (Vr0 ?_)
 exact ⟨rfl, ho1, hS⟩

end Go.Proofs.YtcablikikkmfjaaGreat
end

section
/- Layer 21: more of plain Lean: arguments, ends of walks. -/
set_option linter.unusedVariables false
set_option linter.unusedSimpArgs false
namespace Go.Proofs.YtcablikikkmfjaaGreat
open Go.Vc

/-! ### Got -/
/-! ### Sends -/
/-! ### What arguments read as -/
def opL (x : AlOpA) : List Value := .int .i64 x.do_ :: .int .i64 x.t :: omL x.o
def AlOpsB (w : World) (b o n : Nat) (q : Nat → AlOpA) : Prop := ∀ i, i < n → ∀ j, j < 38 → w.cell? ⟨b, o + i * 38 + j, none⟩ = (opL (q i))[j]?
def AlOpsAt (w : World) (A : Option Addr) (n : Nat) (q : Nat → AlOpA) : Prop := (∀ i, inByte (q i).o.p) ∧ (0 < n → ∃ b o, A = some ⟨b, o, none⟩ ∧ AlOpsB w b o n q)
theorem AlOpsAt.no {w w1 : World} {A : Option Addr} {n : Nat} {q : Nat → AlOpA} (h : AlOpsAt w A n q) (hs : Step No w w1) : AlOpsAt w1 A n q := by
  refine ⟨h.1, fun hn => ?_⟩
  obtain ⟨b, o, rfl, hb⟩ := h.2 hn
  refine ⟨b, o, rfl, fun i hi j hj => ?_⟩
  have := hb i hi j hj
  rw [List.getElem?_eq_getElem (by simpa [opL, omL] using hj)] at this ⊢
  exact hs.cell id this
theorem AlOpsB.do_ {w w1 : World} {b o n : Nat} {q : Nat → AlOpA} (h : AlOpsB w b o n q) (hs : Step No w w1) {P : Program} {t : TypeId} (ht : oneB P t = true) (i : Nat) (hi : i < n) : Loads P t w1 ⟨b, o + i * 38, none⟩ (.int .i64 (q i).do_) :=
  Loads.one ht (hs.cell id (h i hi 0 (by decide)))
theorem AlOpsB.t {w w1 : World} {b o n : Nat} {q : Nat → AlOpA} (h : AlOpsB w b o n q) (hs : Step No w w1) {P : Program} {t : TypeId} (ht : oneB P t = true) (i : Nat) (hi : i < n) : Loads P t w1 ⟨b, o + i * 38 + 1, none⟩ (.int .i64 (q i).t) :=
  Loads.one ht (hs.cell id (h i hi 1 (by decide)))
theorem AlOpsB.o {w w1 : World} {b o n : Nat} {q : Nat → AlOpA} (h : AlOpsB w b o n q) (hs : Step No w w1) {P : Program} {t : TypeId} (ht : aggB P t = some 36) (i : Nat) (hi : i < n) : Loads P t w1 ⟨b, o + i * 38 + 2, none⟩ (.agg (omL (q i).o).toArray) := by
  refine Loads.cells ht _ rfl fun j hj => ?_
  rw [add_none]
  have := h i hi (2 + j) (by omega)
  rw [← Nat.add_assoc] at this
  have e : (opL (q i))[2 + j]? = (omL (q i).o).toArray[j]? := by rw [Nat.add_comm]; simp [opL]
  rw [e] at this
  rw [Array.getElem?_eq_getElem (by simpa [omL] using hj)] at this ⊢
  exact hs.cell id this
end Go.Proofs.YtcablikikkmfjaaGreat
end

section
/- Layer 1, the document's: bits, a division of polynomials. -/
set_option linter.unusedVariables false
set_option linter.unusedSimpArgs false
namespace Go.Proofs.YtcablikikkmfjaaGreat
open Go.Vc
end Go.Proofs.YtcablikikkmfjaaGreat
end

section
/- Layer 1: what the bits of bytes are, and the register behind them. -/
set_option linter.unusedVariables false
set_option linter.unusedSimpArgs false
namespace Go.Proofs.YtcablikikkmfjaaGreat
open Go.Vc

def bits8 (x : Int) : List Bool := [bAnd .u8 (x.fdiv (2 ^ 7)) 1 == 1, bAnd .u8 (x.fdiv (2 ^ 6)) 1 == 1, bAnd .u8 (x.fdiv (2 ^ 5)) 1 == 1, bAnd .u8 (x.fdiv (2 ^ 4)) 1 == 1, bAnd .u8 (x.fdiv (2 ^ 3)) 1 == 1, bAnd .u8 (x.fdiv (2 ^ 2)) 1 == 1, bAnd .u8 (x.fdiv (2 ^ 1)) 1 == 1, bAnd .u8 (x.fdiv (2 ^ 0)) 1 == 1]
def bitsL (bs : List Int) : List Bool := bs.flatMap bits8
def bitsV (bs : List Int) : List (Array Value) := (bitsL bs).map fun x => #[.bool x]
theorem flat8_get {α : Type} (f : Int → List α) (hf : ∀ x, (f x).length = 8) (bs : List Int) : ∀ (j i : Nat), j < bs.length → i < 8 → (bs.flatMap f)[8 * j + i]? = (f (bs.getD j 0))[i]? := by
  induction bs with
  | nil => intro j i h; simp at h
  | cons x r ih =>
    intro j i hj hi
    rw [List.flatMap_cons]
    cases j with
    | zero =>
      rw [Nat.mul_zero, Nat.zero_add, List.getElem?_append_left (by rw [hf]; exact hi)]
      rfl
    | succ j =>
      rw [List.getElem?_append_right (by rw [hf]; omega), hf, show 8 * (j + 1) + i - 8 = 8 * j + i from by omega, ih j i (by simpa using hj) hi]
      simp
theorem flat8_len {α : Type} (f : Int → List α) (hf : ∀ x, (f x).length = 8) (bs : List Int) : (bs.flatMap f).length = 8 * bs.length := by
  induction bs with
  | nil => rfl
  | cons x r ih => rw [List.flatMap_cons, List.length_append, hf, ih, List.length_cons]; omega
theorem bits8_len (x : Int) : (bits8 x).length = 8 := rfl
theorem bitsL_len (bs : List Int) : (bitsL bs).length = 8 * bs.length := flat8_len bits8 bits8_len bs
theorem bitsV_len (bs : List Int) : (bitsV bs).length = 8 * bs.length := by simp [bitsV, bitsL_len]
theorem bitsV_get {bs : List Int} {j i : Nat} {b : Bool} (hj : j < bs.length) (hi : i < 8) (h : (bits8 (bs.getD j 0))[i]? = some b) : (bitsV bs)[8 * j + i]? = some #[.bool b] := by
  rw [bitsV, List.getElem?_map, bitsL, flat8_get bits8 bits8_len bs j i hj hi, h]; rfl

def maskOf (top : Int) : Int := IntKind.wrap .u32 (IntKind.wrap .u32 (top * 2 ^ 1) - 1)
def stepB (top by_ r : Int) (bit : Bool) : Int :=
  if ((bAnd .u32 r top != 0) == bit) = true then bAnd .u32 (IntKind.wrap .u32 (r * 2 ^ 1)) (maskOf top) else bXor .u32 (bAnd .u32 (IntKind.wrap .u32 (r * 2 ^ 1)) (maskOf top)) by_
def restB (bs : List Int) (r top by_ : Int) : Int := (bitsL bs).foldl (stepB top by_) r
theorem foldl_take_succ {α β : Type} (f : β → α → β) (a : β) (xs : List α) (k : Nat) (x : α) (h : xs[k]? = some x) : (xs.take (k + 1)).foldl f a = f ((xs.take k).foldl f a) x := by
  rw [List.take_add_one, h]; simp
end Go.Proofs.YtcablikikkmfjaaGreat
end

section
/- Layer 1, the document's: the frame's check. -/
set_option linter.unusedVariables false
set_option linter.unusedSimpArgs false
namespace Go.Proofs.YtcablikikkmfjaaGreat
open Go.Vc
def longB (bs : List Int) : Int := bXor .u32 4294967295 (restB bs 4294967295 2147483648 79764919)
end Go.Proofs.YtcablikikkmfjaaGreat
end

section
/- Layer 10 in plain Lean: texts as frames. -/
set_option linter.unusedVariables false
set_option linter.unusedSimpArgs false
namespace Go.Proofs.YtcablikikkmfjaaGreat
open Go.Vc
def manyN (n : Nat) : Nat := if n = 0 then 0 else (n + 55) / 48
def sumL (bs : List Int) : List Int := [IntKind.wrap .u8 ((longB bs).fdiv (2 ^ 24)), IntKind.wrap .u8 ((longB bs).fdiv (2 ^ 16)), IntKind.wrap .u8 ((longB bs).fdiv (2 ^ 8)), IntKind.wrap .u8 (longB bs)]
end Go.Proofs.YtcablikikkmfjaaGreat
end

section
/- The checks: a register behind bits is the rest of a division of polynomials. -/
set_option linter.unusedVariables false
set_option linter.unusedSimpArgs false
namespace Go.Proofs.YtcablikikkmfjaaGreat
open Go.Vc

/-! ### 1. Operations on numbers -/
/-! ### 2. The register -/
/-! ### 3. The division -/
/-! ### 4. The rest, as a number -/
/-! ### 5. The divisor's coefficients -/
end Go.Proofs.YtcablikikkmfjaaGreat
end

section
/- Layer 1: bits, rest, Ten. -/
set_option linter.unusedVariables false
set_option linter.unusedSimpArgs false
set_option maxRecDepth 100000
set_option maxHeartbeats 4000000
namespace Go.Proofs.YtcablikikkmfjaaGreat
open Go.Vc Go.RowKit
theorem TSm1aa {P : Prop} (h : P := by intro i hi; first | exact hi | exact ⟨_, by assumption, hi⟩ | (have hi9 : i = b1 := hi; (first | show _ ∨ _ | show _ = _); omega)) : P := h

theorem bits1_any (L : Nat) (B n c Bd : Nat) (A : Option Addr) (bs : List Int) (hn : bs.length = n) (w : World) (J Jx : Nat → Nat → World → Prop) (M : Nat) (hJn : ∀ M k W W', J M k W → Step No W W' → J M k W') (hrd : ∀ M k W, J M k W → Own W B #[.slice A n c] 26 ∧ Sl W Bd A (iL .u8 bs)) (hJ : J M 0 w) (hlen : n < 1152921504606846976) (hy : ∀ k W args, M ≤ W.heap.size → (bitsV bs)[k]? = some args → J M k W → YV Tryz.prog L args W fun v W' => Step (fun i => i < w.heap.size ∨ M ≤ i) W W' ∧ (v = Bo true ∧ J M (k + 1) W' ∨ v = Bo false ∧ Jx M (k + 1) W')) (hM : M ≤ w.heap.size) :
  CV Tryz.prog 295 #[.func (.yield L) #[] #[], Pt B 0] w (fun _ w1 => J M (bitsV bs).length w1 ∨ ∃ k, k ≤ (bitsV bs).length ∧ Jx M k w1) := by
 obtain ⟨hB, hA⟩ := hrd _ _ _ hJ
 refine VCe Tryz.func295 (Vs (Vr (Vl 0 hB (Ve (Vn (VC_block (VC_loop (σ := Nat) (fun σs => [(0, .func (.yield L) #[] #[]), (6, .slice A n c), (7, I6 ((n : Nat) : Int)), (8, I6 ((σs : Nat) : Int))]) (fun σs wr => σs ≤ n ∧ J M (8 * σs) wr ∧ M ≤ wr.heap.size ∧ Own wr B #[.slice A n c] 26 ∧ Sl wr Bd A (iL .u8 bs)) (fun σs wr => n - σs) 0 Su ?_ ?_)))))))
 ·exact ⟨Nat.zero_le _, hJ, hM, hB, hA⟩
 rintro j wr ⟨hj0, hJ, hMz, hB, hA⟩
 try dsimp only at hj0 hJ hMz hB hA ⊢
 refine Vrp (Vs (Vid (((j : Nat) : Int) < ((n : Nat) : Int)) (fun h1 => ?_) (fun h1 => ?_)))
 ·refine VC_skip (Vn (Vs (VC_block (Vs (Vr ?_)))))
  obtain ⟨sb1, so1, rfl, hlbsb1⟩ := hA.open (by simp only [iL_length]; omega)
  refine VL_index (d := 10) (b := sb1) (o := so1) (len := n) (sz := 1) (m := ((j : Nat) : Int)) (by kernel_rfl) (by kernel_rfl) j (by rfl) (by omega) (so1 + j) (by omega) (Vla 1 (t := 5) (a := ⟨sb1, so1 + j, none⟩) (v := .int .u8 (bs.getD j 0)) (Sl.ldI hA (by kernel_rfl) j (by (try simp only [List.length_set, List.length_append, List.length_map, List.length_replicate, List.length_cons, List.length_nil, List.length_take, List.length_drop, List.length_range]) <;> omega)) (Ve (Vn (Vrp (VC_block (VC_rounds (VCL_round (Vs (Vrp (Vt (VC_skip (Vn (Vs (VC_block (Vs (Vr (Vp 6 ?_)))))))))))))))))
  refine VL_yield (d := 22) (L := L) (args := #[Bo ((bAnd .u8 ((bs.getD j 0).fdiv (2 ^ 7)) 1) == 1)]) (by kernel_rfl) (by kernel_rfl) (by kernel_rfl) (hy (8 * j + 0) _ _ hMz (bitsV_get (i := 0) (by omega) (by decide) rfl) hJ) ?_
  rintro _ w1 ⟨hshy1, (⟨rfl, hy1⟩ | ⟨rfl, hy1⟩)⟩
  ·replace hMz := Nat.le_trans hMz hshy1.size
   have hJ := hy1
   obtain ⟨hB, hA⟩ := hrd _ _ _ hJ
   refine Ve (Vn (Vf (VC_skip (VQ_block_normal (Vn (Vr (Ve (VQ_round (VCL_round (Vs (Vrp (Vt (VC_skip (Vn (Vs (VC_block (Vs (Vr (Vp 6 ?_)))))))))))))))))))
   refine VL_yield (d := 22) (L := L) (args := #[Bo ((bAnd .u8 ((bs.getD j 0).fdiv (2 ^ 6)) 1) == 1)]) (by kernel_rfl) (by kernel_rfl) (by kernel_rfl) (hy (8 * j + 1) _ _ hMz (bitsV_get (i := 1) (by omega) (by decide) rfl) hJ) ?_
   rintro _ w2 ⟨hshy2, (⟨rfl, hy2⟩ | ⟨rfl, hy2⟩)⟩
   ·replace hMz := Nat.le_trans hMz hshy2.size
    have hJ := hy2
    obtain ⟨hB, hA⟩ := hrd _ _ _ hJ
    refine Ve (Vn (Vf (VC_skip (VQ_block_normal (Vn (Vr (Ve (VQ_round (VCL_round (Vs (Vrp (Vt (VC_skip (Vn (Vs (VC_block (Vs (Vr (Vp 6 ?_)))))))))))))))))))
    refine VL_yield (d := 22) (L := L) (args := #[Bo ((bAnd .u8 ((bs.getD j 0).fdiv (2 ^ 5)) 1) == 1)]) (by kernel_rfl) (by kernel_rfl) (by kernel_rfl) (hy (8 * j + 2) _ _ hMz (bitsV_get (i := 2) (by omega) (by decide) rfl) hJ) ?_
    rintro _ w3 ⟨hshy3, (⟨rfl, hy3⟩ | ⟨rfl, hy3⟩)⟩
    ·replace hMz := Nat.le_trans hMz hshy3.size
     have hJ := hy3
     obtain ⟨hB, hA⟩ := hrd _ _ _ hJ
     refine Ve (Vn (Vf (VC_skip (VQ_block_normal (Vn (Vr (Ve (VQ_round (VCL_round (Vs (Vrp (Vt (VC_skip (Vn (Vs (VC_block (Vs (Vr (Vp 6 ?_)))))))))))))))))))
     refine VL_yield (d := 22) (L := L) (args := #[Bo ((bAnd .u8 ((bs.getD j 0).fdiv (2 ^ 4)) 1) == 1)]) (by kernel_rfl) (by kernel_rfl) (by kernel_rfl) (hy (8 * j + 3) _ _ hMz (bitsV_get (i := 3) (by omega) (by decide) rfl) hJ) ?_
     rintro _ w4 ⟨hshy4, (⟨rfl, hy4⟩ | ⟨rfl, hy4⟩)⟩
     ·replace hMz := Nat.le_trans hMz hshy4.size
      have hJ := hy4
      obtain ⟨hB, hA⟩ := hrd _ _ _ hJ
      refine Ve (Vn (Vf (VC_skip (VQ_block_normal (Vn (Vr (Ve (VQ_round (VCL_round (Vs (Vrp (Vt (VC_skip (Vn (Vs (VC_block (Vs (Vr (Vp 6 ?_)))))))))))))))))))
      refine VL_yield (d := 22) (L := L) (args := #[Bo ((bAnd .u8 ((bs.getD j 0).fdiv (2 ^ 3)) 1) == 1)]) (by kernel_rfl) (by kernel_rfl) (by kernel_rfl) (hy (8 * j + 4) _ _ hMz (bitsV_get (i := 4) (by omega) (by decide) rfl) hJ) ?_
      rintro _ w5 ⟨hshy5, (⟨rfl, hy5⟩ | ⟨rfl, hy5⟩)⟩
      ·replace hMz := Nat.le_trans hMz hshy5.size
       have hJ := hy5
       obtain ⟨hB, hA⟩ := hrd _ _ _ hJ
       refine Ve (Vn (Vf (VC_skip (VQ_block_normal (Vn (Vr (Ve (VQ_round (VCL_round (Vs (Vrp (Vt (VC_skip (Vn (Vs (VC_block (Vs (Vr (Vp 6 ?_)))))))))))))))))))
       refine VL_yield (d := 22) (L := L) (args := #[Bo ((bAnd .u8 ((bs.getD j 0).fdiv (2 ^ 2)) 1) == 1)]) (by kernel_rfl) (by kernel_rfl) (by kernel_rfl) (hy (8 * j + 5) _ _ hMz (bitsV_get (i := 5) (by omega) (by decide) rfl) hJ) ?_
       rintro _ w6 ⟨hshy6, (⟨rfl, hy6⟩ | ⟨rfl, hy6⟩)⟩
       ·replace hMz := Nat.le_trans hMz hshy6.size
        have hJ := hy6
        obtain ⟨hB, hA⟩ := hrd _ _ _ hJ
        refine Ve (Vn (Vf (VC_skip (VQ_block_normal (Vn (Vr (Ve (VQ_round (VCL_round (Vs (Vrp (Vt (VC_skip (Vn (Vs (VC_block (Vs (Vr (Vp 6 ?_)))))))))))))))))))
        refine VL_yield (d := 22) (L := L) (args := #[Bo ((bAnd .u8 ((bs.getD j 0).fdiv (2 ^ 1)) 1) == 1)]) (by kernel_rfl) (by kernel_rfl) (by kernel_rfl) (hy (8 * j + 6) _ _ hMz (bitsV_get (i := 6) (by omega) (by decide) rfl) hJ) ?_
        rintro _ w7 ⟨hshy7, (⟨rfl, hy7⟩ | ⟨rfl, hy7⟩)⟩
        ·replace hMz := Nat.le_trans hMz hshy7.size
         have hJ := hy7
         obtain ⟨hB, hA⟩ := hrd _ _ _ hJ
         refine Ve (Vn (Vf (VC_skip (VQ_block_normal (Vn (Vr (Ve (VQ_round (VCL_round (Vs (Vrp (Vt (VC_skip (Vn (Vs (VC_block (Vs (Vr (Vp 6 ?_)))))))))))))))))))
         refine VL_yield (d := 22) (L := L) (args := #[Bo ((bAnd .u8 ((bs.getD j 0).fdiv (2 ^ 0)) 1) == 1)]) (by kernel_rfl) (by kernel_rfl) (by kernel_rfl) (hy (8 * j + 7) _ _ hMz (bitsV_get (i := 7) (by omega) (by decide) rfl) hJ) ?_
         rintro _ w8 ⟨hshy8, (⟨rfl, hy8⟩ | ⟨rfl, hy8⟩)⟩
         ·replace hMz := Nat.le_trans hMz hshy8.size
          have hJ := hy8
          obtain ⟨hB, hA⟩ := hrd _ _ _ hJ
          refine Ve (Vn (Vf (VC_skip (VQ_block_normal (Vn (Vr (Ve (VQ_round (VCL_round (Vs (Vrp (Vf (VC_exit (VQ_then_exit (VQ_then_exit (VQ_block_hit (VQ_block_normal (Vn (Vr (Vp 1 ?_))))))))))))))))))))
          have he1 : IntKind.wrap .i64 (((j : Nat) : Int) + 1) = ((j + 1 : Nat) : Int) := (by rw [wrap_i64 _ (by omega) (by omega)]; omega)
          refine Vq 24 (I6 (IntKind.wrap .i64 (((j : Nat) : Int) + 1))) (I6 ((j + 1 : Nat) : Int)) (by rw [he1]) (Ve (VQ_again (j + 1) Su ?_ ?_))
          ·exact ⟨by omega, hJ, hMz, hB, hA⟩
          ·(try dsimp only); omega
         ·refine Ve (Vn (Vt (VC_ret (VQ_block_ret (VQ_then_ret (VQ_then_ret (VQ_block_ret (VQ_block_ret (VQ_then_ret (VQ_then_ret (VQ_block_ret (Vr0 ?_))))))))))))
          exact .inr ⟨_, by rw [bitsV_len]; omega, hy8⟩
        ·refine Ve (Vn (Vt (VC_ret (VQ_block_ret (VQ_then_ret (VQ_then_ret (VQ_block_ret (VQ_block_ret (VQ_then_ret (VQ_then_ret (VQ_block_ret (Vr0 ?_))))))))))))
         exact .inr ⟨_, by rw [bitsV_len]; omega, hy7⟩
       ·refine Ve (Vn (Vt (VC_ret (VQ_block_ret (VQ_then_ret (VQ_then_ret (VQ_block_ret (VQ_block_ret (VQ_then_ret (VQ_then_ret (VQ_block_ret (Vr0 ?_))))))))))))
        exact .inr ⟨_, by rw [bitsV_len]; omega, hy6⟩
      ·refine Ve (Vn (Vt (VC_ret (VQ_block_ret (VQ_then_ret (VQ_then_ret (VQ_block_ret (VQ_block_ret (VQ_then_ret (VQ_then_ret (VQ_block_ret (Vr0 ?_))))))))))))
       exact .inr ⟨_, by rw [bitsV_len]; omega, hy5⟩
     ·refine Ve (Vn (Vt (VC_ret (VQ_block_ret (VQ_then_ret (VQ_then_ret (VQ_block_ret (VQ_block_ret (VQ_then_ret (VQ_then_ret (VQ_block_ret (Vr0 ?_))))))))))))
      exact .inr ⟨_, by rw [bitsV_len]; omega, hy4⟩
    ·refine Ve (Vn (Vt (VC_ret (VQ_block_ret (VQ_then_ret (VQ_then_ret (VQ_block_ret (VQ_block_ret (VQ_then_ret (VQ_then_ret (VQ_block_ret (Vr0 ?_))))))))))))
     exact .inr ⟨_, by rw [bitsV_len]; omega, hy3⟩
   ·refine Ve (Vn (Vt (VC_ret (VQ_block_ret (VQ_then_ret (VQ_then_ret (VQ_block_ret (VQ_block_ret (VQ_then_ret (VQ_then_ret (VQ_block_ret (Vr0 ?_))))))))))))
    exact .inr ⟨_, by rw [bitsV_len]; omega, hy2⟩
  ·refine Ve (Vn (Vt (VC_ret (VQ_block_ret (VQ_then_ret (VQ_then_ret (VQ_block_ret (VQ_block_ret (VQ_then_ret (VQ_then_ret (VQ_block_ret (Vr0 ?_))))))))))))
   exact .inr ⟨_, by rw [bitsV_len]; omega, hy1⟩
 ·refine VC_exit (VQ_then_exit (VQ_then_exit (VQ_block_hit (Vr0 ?_))))
  obtain rfl : j = n := by omega
  exact .inl (by rw [bitsV_len, hn]; exact hJ)

theorem bits_iter (B n c Bd : Nat) (A : Option Addr) (bs : List Int) (hn : bs.length = n) (hlen : n < 1152921504606846976) :
    IterC Tryz.prog 295 #[.pointer (some ⟨B, 0, none⟩)] (bitsV bs) (fun _ W => Own W B #[.slice A n c] 26 ∧ Sl W Bd A (iL .u8 bs)) := by
  intro L W0 J Jx hJn hJxn hrd hrd0 h0 hy
  refine CV.mono (bits1_any L B n c Bd A bs hn W0 J Jx W0.heap.size hJn hrd (h0 _ _ (Nat.le_refl _) (Nat.le_refl _) (Step.refl _ _)) hlen (fun k W args hM hx hj => hy _ k W args (Nat.le_refl _) hM hx hj) (Nat.le_refl _)) fun v W' hh => ⟨_, Nat.le_refl _, hh⟩
theorem bits_any (A : Option Addr) (n c : Nat) (w : World) :
  CV Tryz.prog 246 #[.slice A n c] w (fun x w1 => ∃ B, x = .func (.func 295) #[] #[Pt B 0] ∧ ¬ B < w.heap.size ∧ Own w1 B #[.slice A n c] 26 ∧ Step No w w1) := by
 have hS : Step No w w := Step.refl _ _
 refine VCe Tryz.func246 (Vs (Vr ?_))
 refine Vx 0 26 #[.slice A n c] ?_
 intro b1 w1 hn1
 replace hS := Step.trans hS (hn1.step No)
 have ho1 := hn1.own
 have hzhn1 := hn1.size
 have hqhn1 := hn1.eqb
 refine Ve (Vn (Vrp (VC_ret (Vr1 (.func (.func 295) #[] #[Pt b1 0]) ?_))))
 exact ⟨b1, rfl, by omega, ho1, hS⟩

theorem rest_any (A : Option Addr) (n c Bd : Nat) (bs : List Int) (w : World) (hn : bs.length = n) (hA : Sl w Bd A (iL .u8 bs)) (r top by_ : Int) (hlen : n < 1152921504606846976) (hBd : Bd ≤ w.heap.size) :
  CV Tryz.prog 191 #[.slice A n c, .int .u32 r, .int .u32 top, .int .u32 by_] w (fun x w1 => x = .int .u32 (restB bs r top by_) ∧ Step No w w1) := by
 have hS : Step No w w := Step.refl _ _
 refine VCm Tryz.func191 (Vs (Vr ?_))
 refine Vx 0 38 #[.int .u32 r] ?_
 intro b1 w1 hn1
 replace hS := Step.trans hS (hn1.step No)
 replace hA := hA.no (hn1.step No)
 have ho1 := hn1.own
 have hzhn1 := hn1.size
 have hqhn1 := hn1.eqb
 refine Vx 1 38 #[.int .u32 top] ?_
 intro b2 w2 hn2
 replace hS := Step.trans hS (hn2.step No)
 replace hA := hA.no (hn2.step No)
 replace ho1 := ho1.no (hn2.step No)
 have ho2 := hn2.own
 have hzhn2 := hn2.size
 have hqhn2 := hn2.eqb
 refine Vx 2 38 #[.int .u32 by_] ?_
 intro b3 w3 hn3
 replace hS := Step.trans hS (hn3.step No)
 replace hA := hA.no (hn3.step No)
 replace ho1 := ho1.no (hn3.step No)
 replace ho2 := ho2.no (hn3.step No)
 have ho3 := hn3.own
 have hzhn3 := hn3.size
 have hqhn3 := hn3.eqb
 refine Ve (Vn (VC_scope (Vs (Vr (Vl 0 ho2 (Vp 3 ?_))))))
 refine Vx 3 38 #[.int .u32 0] ?_
 intro b4 w4 hn4
 replace hS := Step.trans hS (hn4.step No)
 replace hA := hA.no (hn4.step No)
 replace ho1 := ho1.no (hn4.step No)
 replace ho2 := ho2.no (hn4.step No)
 replace ho3 := ho3.no (hn4.step No)
 have ho4 := hn4.own
 have hzhn4 := hn4.size
 have hqhn4 := hn4.eqb
 refine Vst 4 (o := 0) [.int .u32 (IntKind.wrap .u32 ((IntKind.wrap .u32 (top * 2 ^ 1)) - 1))] ho4 #[.int .u32 (IntKind.wrap .u32 ((IntKind.wrap .u32 (top * 2 ^ 1)) - 1))] ?_
 intro w5 hw1
 replace hS := Step.transNew hS hw1.step (fun _ _ _ => by omega)
 replace hA := hA.step hw1.step (fun k hk (hF : k = b4) => by omega)
 replace ho1 := ho1.step hw1.step (show ¬ b1 = b4 by omega)
 replace ho2 := ho2.step hw1.step (show ¬ b2 = b4 by omega)
 replace ho3 := ho3.step hw1.step (show ¬ b3 = b4 by omega)
 have ho5 := hw1.own
 have hzhw1 := hw1.same
 refine Ve (Vn (Vs (VC_label (Vn (Vs (Vs (Vr (Vp 1 ?_))))))))
 refine Vc 1 Tryz.call246 (bits_any A n c _) ?_
 rintro _ w6 ⟨bb1, rfl, hfbb1, hbb1, hc1⟩
 replace hS := Step.trans hS hc1
 replace hA := hA.no hc1
 replace ho1 := ho1.no hc1
 replace ho2 := ho2.no hc1
 replace ho3 := ho3.no hc1
 replace ho5 := ho5.no hc1
 have hzbb1 := hbb1.lt
 refine Ve (Vn (VC_block ?_))
 have hzl14 := ho5.lt
 refine VC_range (gf := 295) (lb := #[Pt bb1 0]) (xs := (bitsV bs)) (by kernel_rfl) Tryz.call295 (bits_iter bb1 n c Bd A bs hn hlen) (fun a ha => by obtain ⟨x, _, rfl⟩ := List.mem_map.1 ha; rfl) (by kernel_rfl) (fun _ i => i = b1) (fun M i hi => by have : i = b1 := hi; omega) (fun _ k W => (Step No w W) ∧ (Sl W Bd A (iL .u8 bs)) ∧ (Own W b1 #[.int .u32 (((bitsL bs).take k).foldl (stepB top by_) r)] 38) ∧ (Own W b2 #[.int .u32 top] 38) ∧ (Own W b3 #[.int .u32 by_] 38) ∧ (Own W b4 #[.int .u32 (IntKind.wrap .u32 ((IntKind.wrap .u32 (top * 2 ^ 1)) - 1))] 38) ∧ (Own W bb1 #[.slice A n c] 26)) (fun _ _ => False) (by rintro M k W W' ⟨hS, hA, ho1, ho2, ho3, ho5, hbb1⟩ hs; exact ⟨Step.transNew hS hs (fun i hi hG => by have : i = (w6.heap.size + 1) := hG; omega), hA.step hs (fun k hk (hF : k = (w6.heap.size + 1)) => by omega), ho1.step hs (show ¬ b1 = (w6.heap.size + 1) by omega), ho2.step hs (show ¬ b2 = (w6.heap.size + 1) by omega), ho3.step hs (show ¬ b3 = (w6.heap.size + 1) by omega), ho5.step hs (show ¬ b4 = (w6.heap.size + 1) by omega), hbb1.step hs (show ¬ bb1 = (w6.heap.size + 1) by omega)⟩) (fun _ _ _ h _ => h.elim) (by rintro M k W W' ⟨hS, hA, ho1, ho2, ho3, ho5, hbb1⟩ hs; exact ⟨Step.trans hS hs, hA.no hs, ho1.no hs, ho2.no hs, ho3.no hs, ho5.no hs, hbb1.no hs⟩) (fun _ _ _ h _ => h.elim) (by rintro M k W ⟨hS, hA, ho1, ho2, ho3, ho5, hbb1⟩; exact ⟨hbb1, hA⟩) (fun W hs => ⟨hbb1.no hs, hA.no hs⟩) (fun M W hM hM2 hs _ => ⟨Step.trans hS hs, hA.no hs, ho1.no hs, ho2.no hs, ho3.no hs, ho5.no hs, hbb1.no hs⟩) ?_ ?_ ?_
 ·intro M k w7 args hM hM2 hx hJ0 hsz
  obtain ⟨hS, hA, ho1, ho2, ho3, ho5, hbb1⟩ := hJ0
  obtain ⟨bit, hbit, rfl⟩ : ∃ bit, (bitsL bs)[k]? = some bit ∧ args = #[Bo bit] := by
   rw [bitsV, List.getElem?_map] at hx
   obtain ⟨x, h1, h2⟩ := Option.map_eq_some_iff.1 hx
   exact ⟨x, h1, h2.symm⟩
  refine VC_keep [5, 6, 7, 9, 17] [(5, Pt b1 0), (6, Pt b2 0), (7, Pt b3 0), (9, Pt b4 0), (17, Bo bit)] (by kernel_rfl) (Vr (Ve (VQ_begin (Step.refl _ _) ?_)))
  intro w8 hb1 hzhb1
  replace hS := Step.transNew hS hb1 (fun _ _ _ => by omega)
  replace hA := hA.step hb1 (fun k hk (hF : k = (w6.heap.size + 1)) => by omega)
  replace ho1 := ho1.step hb1 (show ¬ b1 = (w6.heap.size + 1) by omega)
  replace ho2 := ho2.step hb1 (show ¬ b2 = (w6.heap.size + 1) by omega)
  replace ho3 := ho3.step hb1 (show ¬ b3 = (w6.heap.size + 1) by omega)
  replace ho5 := ho5.step hb1 (show ¬ b4 = (w6.heap.size + 1) by omega)
  replace hbb1 := hbb1.step hb1 (show ¬ bb1 = (w6.heap.size + 1) by omega)
  have hR1 : Step ((fun _ i => i = b1) M) w8 w8 := Step.refl _ _
  refine VC_block (Vs (Vr (Vl 0 ho1 (Vl 1 ho2 (Ve (Vn (Vs (Vr (Vl 0 ho1 (Vl 2 ho5 (Vst 4 (o := 0) [.int .u32 (bAnd .u32 (IntKind.wrap .u32 ((((bitsL bs).take k).foldl (stepB top by_) r) * 2 ^ 1)) (IntKind.wrap .u32 ((IntKind.wrap .u32 (top * 2 ^ 1)) - 1)))] ho1 #[.int .u32 (bAnd .u32 (IntKind.wrap .u32 ((((bitsL bs).take k).foldl (stepB top by_) r) * 2 ^ 1)) (IntKind.wrap .u32 ((IntKind.wrap .u32 (top * 2 ^ 1)) - 1)))] ?_)))))))))))
  intro w9 hw2
  replace hS := Step.transNew hS hw2.step (fun _ _ _ => by omega)
  replace hA := hA.step hw2.step (fun k hk (hF : k = b1) => by omega)
  replace ho2 := ho2.step hw2.step (show ¬ b2 = b1 by omega)
  replace ho3 := ho3.step hw2.step (show ¬ b3 = b1 by omega)
  replace ho5 := ho5.step hw2.step (show ¬ b4 = b1 by omega)
  replace hbb1 := hbb1.step hw2.step (show ¬ bb1 = b1 by omega)
  replace hR1 := Step.trans hR1 (Step.mono hw2.step TSm1aa)
  have ho6 := hw2.own
  refine Ve (Vn (Vs (Vrp (Vif (((bAnd .u32 (((bitsL bs).take k).foldl (stepB top by_) r) top) != 0) == bit) (fun h1 => ?_) (fun h1 => ?_)))))
  ·try simp only [BB] at h1
   refine VC_exit (VQ_then_exit (VQ_block_hit ?_))
   exact VQ_round_end hR1 ⟨hS, hA, (Own.cast ho6 (by rw [foldl_take_succ _ _ _ _ _ hbit, stepB]; rw [if_pos (beq_iff_eq.2 h1)]; rfl)), ho2, ho3, ho5, hbb1⟩
  ·try simp only [BB] at h1
   refine VC_skip (Vn (Vr (Vl 0 ho6 (Vl 1 ho3 (Vst 3 (o := 0) [.int .u32 (bXor .u32 (bAnd .u32 (IntKind.wrap .u32 ((((bitsL bs).take k).foldl (stepB top by_) r) * 2 ^ 1)) (IntKind.wrap .u32 ((IntKind.wrap .u32 (top * 2 ^ 1)) - 1))) by_)] ho6 #[.int .u32 (bXor .u32 (bAnd .u32 (IntKind.wrap .u32 ((((bitsL bs).take k).foldl (stepB top by_) r) * 2 ^ 1)) (IntKind.wrap .u32 ((IntKind.wrap .u32 (top * 2 ^ 1)) - 1))) by_)] ?_)))))
   intro w10 hw3
   replace hS := Step.transNew hS hw3.step (fun _ _ _ => by omega)
   replace hA := hA.step hw3.step (fun k hk (hF : k = b1) => by omega)
   replace ho2 := ho2.step hw3.step (show ¬ b2 = b1 by omega)
   replace ho3 := ho3.step hw3.step (show ¬ b3 = b1 by omega)
   replace ho5 := ho5.step hw3.step (show ¬ b4 = b1 by omega)
   replace hbb1 := hbb1.step hw3.step (show ¬ bb1 = b1 by omega)
   replace hR1 := Step.trans hR1 (Step.mono hw3.step TSm1aa)
   have ho7 := hw3.own
   refine Ve (VQ_block_normal ?_)
   exact VQ_round_end hR1 ⟨hS, hA, (Own.cast ho7 (by rw [foldl_take_succ _ _ _ _ _ hbit, stepB]; rw [if_neg (fun e => h1 (beq_iff_eq.1 e))]; rfl)), ho2, ho3, ho5, hbb1⟩
 ·intro M w11 hM hzM hJ0 hD
  obtain ⟨hS, hA, ho1, ho2, ho3, ho5, hbb1⟩ := hJ0
  replace ho1 : Own w11 b1 #[.int .u32 (restB bs r top by_)] 38 := Own.cast ho1 (by rw [bitsV_len, ← bitsL_len, List.take_length]; rfl)
  have hmk1 := hD
  refine VQ_block_normal (Vn (Vs (Vr (Vl 0 ho1 (Ve (Vn (VC_ret (VQ_scope_ret ?_))))))))
  refine VrM (.int .u32 (restB bs r top by_)) (Ds := [w6.heap.size]) ⟨hmk1, (by simp), trivial⟩ ?_
  intro w12 hq1
  replace hq1 : Step (Just w6.heap.size) w11 w12 := Step.mono hq1 (fun i hi => by simpa using hi)
  replace hS := Step.transNew hS hq1 (fun _ _ _ => by omega)
  exact ⟨rfl, hS⟩
 ·intro e W _ hF _; exact hF.elim

end Go.Proofs.YtcablikikkmfjaaGreat
end

section
/- Layer 4: a payload's check. -/
set_option linter.unusedVariables false
set_option linter.unusedSimpArgs false
namespace Go.Proofs.YtcablikikkmfjaaGreat
open Go.Vc
end Go.Proofs.YtcablikikkmfjaaGreat
end

section
/- Lists of bytes, and numbers out of them. -/
set_option linter.unusedVariables false
set_option linter.unusedSimpArgs false
namespace Go.Proofs.YtcablikikkmfjaaGreat
open Go.Vc
def Bytes (bs : List Int) : Prop := ∀ x ∈ bs, 0 ≤ x ∧ x < 256
theorem Bytes.get {bs : List Int} (h : Bytes bs) (j : Nat) : 0 ≤ bs.getD j 0 ∧ bs.getD j 0 < 256 := by
  by_cases hj : j < bs.length
  · rw [List.getD, List.getElem?_eq_getElem hj]; exact h _ (List.getElem_mem hj)
  · rw [List.getD, List.getElem?_eq_none (by omega)]; simp
theorem Bytes.drop {bs : List Int} (h : Bytes bs) (j : Nat) : Bytes (bs.drop j) := fun x hx => h x (List.mem_of_mem_drop hx)
theorem Bytes.take {bs : List Int} (h : Bytes bs) (j : Nat) : Bytes (bs.take j) := fun x hx => h x (List.mem_of_mem_take hx)
theorem Bytes.app {xs ys : List Int} (h : Bytes xs) (h' : Bytes ys) : Bytes (xs ++ ys) := fun x hx => (List.mem_append.1 hx).elim (h x) (h' x)
theorem wrap_u8 (x : Nat) : IntKind.wrap .u8 (x : Int) = ((x % 2 ^ 8 : Nat) : Int) := by
  unfold IntKind.wrap
  simp [IntKind.signed, IntKind.bits]
theorem fdiv_nat (a k : Nat) : ((a : Int).fdiv (2 ^ k)) = ((a / 2 ^ k : Nat) : Int) := by
  rw [Int.fdiv_eq_ediv_of_nonneg _ (Int.le_of_lt (Int.pow_pos (by omega))), show ((2 : Int) ^ k) = ((2 ^ k : Nat) : Int) by rw [Int.natCast_pow]; rfl, ← Int.natCast_ediv]
theorem byte_wrap (x : Int) : 0 ≤ IntKind.wrap .u8 x ∧ IntKind.wrap .u8 x < 256 := by
  unfold IntKind.wrap
  simp only [IntKind.signed, IntKind.bits, Bool.false_and, Bool.false_eq_true, if_false]
  omega
theorem or_byte (a b : Nat) (hb : b < 256) : a * 256 ||| b = a * 256 + b := by
  rw [show a * 256 = 2 ^ 8 * a by omega, Nat.two_pow_add_eq_or_of_lt (by omega)]
theorem bOr_i64 (a b : Nat) (ha : a < 2 ^ 62) (hb : b < 2 ^ 62) : bOr .i64 (a : Int) (b : Int) = ((a ||| b : Nat) : Int) := by
  unfold bOr
  rw [BitVec.ofInt_natCast, BitVec.ofInt_natCast, BitVec.toNat_or, BitVec.toNat_ofNat, BitVec.toNat_ofNat]
  show IntKind.wrap .i64 (((a % 2 ^ 64 ||| b % 2 ^ 64 : Nat)) : Int) = _
  have h := Nat.or_lt_two_pow ha hb
  rw [Nat.mod_eq_of_lt (by omega), Nat.mod_eq_of_lt (by omega), wrap_i64 _ (by omega) (by omega)]
theorem Bytes.nil : Bytes [] := fun x hx => by simp at hx
theorem Bytes.cons {x : Int} {xs : List Int} (h : 0 ≤ x ∧ x < 256) (h' : Bytes xs) : Bytes (x :: xs) := fun y hy => (List.mem_cons.1 hy).elim (fun e => e ▸ h) (h' y)
theorem Bytes.head {x : Int} {xs : List Int} (h : Bytes (x :: xs)) : 0 ≤ x ∧ x < 256 := h x (by simp)
theorem Bytes.tail {x : Int} {xs : List Int} (h : Bytes (x :: xs)) : Bytes xs := fun y hy => h y (by simp [hy])
end Go.Proofs.YtcablikikkmfjaaGreat
end

section
/- Layer 4: both payload checks are one. -/
set_option linter.unusedVariables false
set_option linter.unusedSimpArgs false
namespace Go.Proofs.YtcablikikkmfjaaGreat
open Go.Vc
/-! ### The check -/
end Go.Proofs.YtcablikikkmfjaaGreat
end

section
/- Layer 10 in plain Lean: frames as texts. -/
set_option linter.unusedVariables false
set_option linter.unusedSimpArgs false
namespace Go.Proofs.YtcablikikkmfjaaGreat
open Go.Vc
/-- What a frame's trailer tells: its text's length. -/
def tailF (bs : List Int) (n : Nat) : List Int := (bs.drop (n - 8)).take (n - (n - 8))
def lenF (bs : List Int) (n : Nat) : Nat := ((tailF bs n).getD 2 0 * 256 + (tailF bs n).getD 3 0).toNat
def midF (bs : List Int) (n : Nat) : List Int := (bs.drop (lenF bs n)).take (n - 8 - lenF bs n)
/-- Is a frame bad, and how? -/
def unE (bs : List Int) : Int :=
  let n := bs.length
  if n = 0 ∨ n % 48 ≠ 0 then 5 else if (bs.drop (n - 4)).take (n - (n - 4)) ≠ sumL (bs.take (n - 4)) then 4
  else if (tailF bs n).getD 1 0 ≠ 0 ∨ lenF bs n = 0 ∨ manyN (lenF bs n) * 48 ≠ n then 5
  else if (midF bs n).any (fun x => x != 0) = true then 5 else if 1000 < lenF bs n then 6 else 0
end Go.Proofs.YtcablikikkmfjaaGreat
end

section
/- Layer 1, the document's: Same. -/
set_option linter.unusedVariables false
set_option linter.unusedSimpArgs false
set_option maxRecDepth 100000
set_option maxHeartbeats 4000000
namespace Go.Proofs.YtcablikikkmfjaaGreat
open Go.Vc Go.RowKit

end Go.Proofs.YtcablikikkmfjaaGreat
end

section
/- Layer 1, the document's: Bits, Rest, Same, Flip. -/
set_option linter.unusedVariables false
set_option linter.unusedSimpArgs false
set_option maxRecDepth 100000
set_option maxHeartbeats 4000000
namespace Go.Proofs.YtcablikikkmfjaaGreat
open Go.Vc Go.RowKit
end Go.Proofs.YtcablikikkmfjaaGreat
end

section
/- Layer 1, the document's: Rest, the first bits turned over. -/
set_option linter.unusedVariables false
set_option linter.unusedSimpArgs false
set_option maxRecDepth 100000
set_option maxHeartbeats 4000000
namespace Go.Proofs.YtcablikikkmfjaaGreat
open Go.Vc Go.RowKit
end Go.Proofs.YtcablikikkmfjaaGreat
end

section
/- Layer 1: Long, both sides. -/
set_option linter.unusedVariables false
set_option linter.unusedSimpArgs false
set_option maxRecDepth 100000
set_option maxHeartbeats 4000000
namespace Go.Proofs.YtcablikikkmfjaaGreat
open Go.Vc Go.RowKit

end Go.Proofs.YtcablikikkmfjaaGreat
end

section
/- Layer 10: Many, sum, Pack. -/
set_option linter.unusedVariables false
set_option linter.unusedSimpArgs false
set_option maxRecDepth 100000
set_option maxHeartbeats 4000000
namespace Go.Proofs.YtcablikikkmfjaaGreat
open Go.Vc Go.RowKit
end Go.Proofs.YtcablikikkmfjaaGreat
end

section
/- Layer 10: Unpack. -/
set_option linter.unusedVariables false
set_option linter.unusedSimpArgs false
set_option maxRecDepth 100000
set_option maxHeartbeats 4000000
namespace Go.Proofs.YtcablikikkmfjaaGreat
open Go.Vc Go.RowKit
end Go.Proofs.YtcablikikkmfjaaGreat
end

section
/- Layer 10 in plain Lean, the document's. -/
set_option linter.unusedVariables false
set_option linter.unusedSimpArgs false
namespace Go.Proofs.YtcablikikkmfjaaGreat
open Go.Vc
end Go.Proofs.YtcablikikkmfjaaGreat
end

section
/- Layer 10 in plain Lean: both sides are one. -/
set_option linter.unusedVariables false
set_option linter.unusedSimpArgs false
namespace Go.Proofs.YtcablikikkmfjaaGreat
open Go.Vc
/-! ### What is packed is unpacked -/
end Go.Proofs.YtcablikikkmfjaaGreat
end

section
/- Layer 10: contracts as the laws use them. -/
set_option linter.unusedVariables false
set_option linter.unusedSimpArgs false
namespace Go.Proofs.YtcablikikkmfjaaGreat
open Go.Vc
end Go.Proofs.YtcablikikkmfjaaGreat
end

section
/- Layer 10, the document's: Pack, Unpack. -/
set_option linter.unusedVariables false
set_option linter.unusedSimpArgs false
set_option maxRecDepth 100000
set_option maxHeartbeats 4000000
namespace Go.Proofs.YtcablikikkmfjaaGreat
open Go.Vc Go.RowKit
end Go.Proofs.YtcablikikkmfjaaGreat
end

section
/- Layer 11: frames out of their parts: what a gather is, and what it does, without Go. -/
set_option linter.unusedVariables false
set_option linter.unusedSimpArgs false
namespace Go.Vc
open Go.RowKit
/-- A view whose block has the type e, and is one of X. -/
def SlX (w : World) (e : TypeId) (X : Nat → Prop) (A : Option Addr) (xs : List Value) : Prop :=
  0 < xs.length → ∃ b o, A = some ⟨b, o, none⟩ ∧ X b ∧ TyB w e b ∧ ∀ j u, xs[j]? = some u → w.cell? ⟨b, o + j, none⟩ = some u
section
variable {F X Y : Nat → Prop} {w w' : World} {e e' : TypeId} {A : Option Addr} {xs ys : List Value}
theorem SlX.nil : SlX w e X A [] := fun h => by simp at h
theorem SlX.keep (h : SlX w e X A xs) (hs : Step F w w') (hF : ∀ b, X b → TyB w e b → ¬ F b) : SlX w' e X A xs := by
  intro h0
  obtain ⟨b, o, hA, hx, ht, hc⟩ := h h0
  have hn := hF b hx ht
  exact ⟨b, o, hA, hx, ht.step hs hn, fun j u hu => hs.cell hn (hc j u hu)⟩
theorem SlX.no (h : SlX w e X A xs) (hs : Step No w w') : SlX w' e X A xs := h.keep hs fun _ _ _ => id
theorem SlX.own {q : Nat} {cs : Array Value} (h : SlX w e X A xs) (ho : Own w q cs e') (hne : e ≠ e') (hs : Step (Just q) w w') : SlX w' e X A xs :=
  h.keep hs fun b _ ht (hb : b = q) => ht.ne ho hne hb
theorem SlX.mark {L : Nat} (h : SlX w e X A xs) (hX : ∀ b, X b → b ≠ L) (hs : Step (Just L) w w') : SlX w' e X A xs :=
  h.keep hs fun b hx _ (hb : b = L) => hX b hx hb
theorem SlX.mono (h : SlX w e X A xs) (hX : ∀ b, X b → b < w.heap.size → Y b) : SlX w e Y A xs := by
  intro h0
  obtain ⟨b, o, hA, hx, ht, hc⟩ := h h0
  exact ⟨b, o, hA, hX b hx ht.lt, ht, hc⟩
theorem SlX.sl (h : SlX w e X A xs) : Sl w w.heap.size A xs := by
  intro h0
  obtain ⟨b, o, hA, hx, ht, hc⟩ := h h0
  exact ⟨b, o, hA, ht.lt, hc⟩
theorem SlX.takeI {k : IntKind} {bs : List Int} (h : SlX w e X A (iL k bs)) (m : Nat) : SlX w e X A (iL k (bs.take m)) := by
  intro h0
  obtain ⟨b, o, hA, hx, ht, hc⟩ := h (by simp at h0 ⊢; omega)
  exact ⟨b, o, hA, hx, ht, fun j u hu => hc j u (by rw [iL_take, List.getElem?_take] at hu; split at hu <;> simp_all)⟩
theorem SlX.below {B : Nat} (h : SlX w e (fun k9 => k9 < B) A xs) : Sl w B A xs := by
  intro h0
  obtain ⟨b, o, hA, hx, ht, hc⟩ := h h0
  exact ⟨b, o, hA, hx, hc⟩
theorem SlX.cast (h : SlX w e X A xs) (he : xs = ys) : SlX w e X A ys := he ▸ h
theorem SlX.of_rw {base n c : Nat} (h : Rw w base e A n c xs) (hX : ∀ k, base ≤ k → X k) : SlX w e X A xs := by
  intro h0
  have hl := h.len
  obtain ⟨g, cur, rfl, hb, hg, ho, hs, hn, hm, ht⟩ := h.open (by omega)
  refine ⟨g, 0, rfl, hX g hb, ⟨cur, (0, 0), ho⟩, fun j u hu => ?_⟩
  rw [Nat.zero_add, ho.cell, ← ht] at *
  rw [List.getElem?_take] at hu
  split at hu
  · simpa using hu
  · cases hu
end
end Go.Vc
namespace Go.Proofs.YtcablikikkmfjaaGreat
open Go.Vc Go.RowKit
/-- A gather. -/
structure Ga where
  wait : Int
  began : Int
  lost : Int
  bs : List Int
  sk : Bool
def tickB (g : Ga) (t : Int) : Bool := !(decide (g.bs.length = 0) || decide (t - g.began < g.wait))
def loseF (g : Ga) : Ga := { g with bs := [], lost := g.lost + 1 }
def tickF (g : Ga) (t : Int) : Ga := bif tickB g t then loseF g else g
def gaddF (g : Ga) (t : Int) (p : List Int) : Ga := { g with began := if g.bs = [] then t else g.began, bs := g.bs ++ p }
def lostE (e l : Int) : Int := if e = 0 then l else l + 1
theorem lostE_rng (e l : Int) : l ≤ lostE e l ∧ lostE e l ≤ l + 1 := by
  unfold lostE
  by_cases h : e = 0
  · rw [if_pos h]; omega
  · rw [if_neg h]; omega
def outF (g : Ga) (ps : List Int) : Ga := { g with bs := [], lost := lostE (unE ps) g.lost }
/-- A part that is taken: the gather behind it. -/
def takeF (g : Ga) (t : Int) (p : List Int) (last : Bool) : Ga :=
  let g1 := tickF g t
  bif g1.sk then { g1 with sk := !last }
  else let g2 := gaddF g1 t p
    bif last then outF g2 g2.bs
    else if g2.bs.length < 1008 then g2 else { loseF g2 with sk := true }
/-- What a gather may be. -/
structure GaI (g : Ga) (k : Nat) : Prop where
  len : ∃ m, m ≤ 20 ∧ g.bs.length = 48 * m
  byt : Bytes g.bs
  b0 : 0 ≤ g.began
  b1 : g.began ≤ 1152921504606846976
  l0 : 0 ≤ g.lost
  l1 : g.lost ≤ k
theorem GaI.add {g : Ga} {k : Nat} {t : Int} {p : List Int} (h : GaI g k) (hp : p.length = 48) (hb : Bytes p) : Bytes (gaddF g t p).bs ∧ (gaddF g t p).bs.length ≤ 1008 ∧ (gaddF g t p).bs.length % 48 = 0 ∧ (gaddF g t p).lost = g.lost := by
  obtain ⟨m, hm, hl⟩ := h.len
  have hl2 : (gaddF g t p).bs.length = 48 * (m + 1) := by simp only [gaddF, List.length_append]; omega
  exact ⟨h.byt.app hb, by omega, by omega, rfl⟩
def GaOf (w : World) (T p : Nat) (X : Nat → Prop) (g : Ga) : Prop :=
  ∃ A c, Own w p #[.int .i64 g.wait, .int .i64 g.began, .int .i64 g.lost, .slice A g.bs.length c, .bool g.sk] T ∧ SlX w 5 X A (iL .u8 g.bs) ∧ g.bs.length ≤ c
section
variable {w w' : World} {T T' p p' : Nat} {X Y : Nat → Prop} {g g' : Ga}
theorem GaOf.no (h : GaOf w T p X g) (hs : Step No w w') : GaOf w' T p X g := by
  obtain ⟨A, c, ho, hv, hc⟩ := h
  exact ⟨A, c, ho.no hs, hv.no hs, hc⟩
theorem GaOf.keep {q : Nat} {cs : Array Value} {e : TypeId} (h : GaOf w T p X g) (ho : Own w q cs e) (hne : 5 ≠ e) (hq : p ≠ q) (hs : Step (Just q) w w') : GaOf w' T p X g := by
  obtain ⟨A, c, h1, hv, hc⟩ := h
  exact ⟨A, c, h1.step hs hq, hv.own ho hne hs, hc⟩
theorem GaOf.other (h : GaOf w T p X g) (h' : GaOf w T' p' Y g') (hne : 5 ≠ T') (hq : p ≠ p') (hs : Step (Just p') w w') : GaOf w' T p X g := by
  obtain ⟨A, c, ho, hv, hc⟩ := h'
  exact h.keep ho hne hq hs
theorem GaOf.mark {L : Nat} (h : GaOf w T p X g) (hX : ∀ b, X b → b ≠ L) (hp : p ≠ L) (hs : Step (Just L) w w') : GaOf w' T p X g := by
  obtain ⟨A, c, h1, hv, hc⟩ := h
  exact ⟨A, c, h1.step hs hp, hv.mark hX hs, hc⟩
theorem GaOf.mono (h : GaOf w T p X g) (hX : ∀ b, X b → b < w.heap.size → Y b) : GaOf w T p Y g := by
  obtain ⟨A, c, h1, hv, hc⟩ := h
  exact ⟨A, c, h1, hv.mono hX, hc⟩
theorem GaOf.lt (h : GaOf w T p X g) : p < w.heap.size := by
  obtain ⟨A, c, h1, hv, hc⟩ := h
  exact h1.lt
theorem GaOf.cast (h : GaOf w T p X g) (e : g = g') : GaOf w T p X g' := e ▸ h
end
theorem GaI.mono {g : Ga} {k k' : Nat} (h : GaI g k) (hk : k ≤ k') : GaI g k' := ⟨h.len, h.byt, h.b0, h.b1, h.l0, by have := h.l1; omega⟩
theorem GaI.lose {g : Ga} {k : Nat} (h : GaI g k) : GaI (loseF g) (k + 1) := ⟨⟨0, by omega, rfl⟩, Bytes.nil, h.b0, h.b1, by have := h.l0; simp only [loseF]; omega, by have := h.l1; simp only [loseF]; omega⟩
theorem GaI.tick {g : Ga} {k : Nat} (h : GaI g k) (t : Int) : GaI (tickF g t) (k + 1) := by
  unfold tickF
  cases tickB g t
  · exact h.mono (by omega)
  · exact h.lose
theorem GaI.skip {g : Ga} {k : Nat} (h : GaI g k) (b : Bool) : GaI { g with sk := b } k := ⟨h.len, h.byt, h.b0, h.b1, h.l0, h.l1⟩
theorem GaI.out {g : Ga} {k : Nat} (h : GaI g k) (ps : List Int) : GaI (outF g ps) (k + 1) := by
  refine ⟨⟨0, by omega, rfl⟩, Bytes.nil, h.b0, h.b1, ?_, ?_⟩
  · have := h.l0; have := lostE_rng (unE ps) g.lost; simp only [outF]; omega
  · have := h.l1; have := lostE_rng (unE ps) g.lost; simp only [outF]; omega
theorem GaI.new (m : Int) : GaI ⟨m, 0, 0, [], false⟩ 0 := ⟨⟨0, by omega, rfl⟩, Bytes.nil, by simp, by simp, by simp, by simp⟩
theorem GaI.take {g : Ga} {k : Nat} (h : GaI g k) {t : Int} {p : List Int} (last : Bool) (h0 : 0 ≤ t) (h1 : t ≤ 1152921504606846976) (hp : p.length = 48) (hb : Bytes p) : GaI (takeF g t p last) (k + 3) := by
  unfold takeF
  dsimp only
  have h2 := h.tick t
  generalize tickF g t = g1 at h2
  cases hs : g1.sk
  · simp only [cond_false]
    have hb2 : 0 ≤ (gaddF g1 t p).began ∧ (gaddF g1 t p).began ≤ 1152921504606846976 := by
      simp only [gaddF]
      have := h2.b0
      have := h2.b1
      split <;> exact ⟨by omega, by omega⟩
    obtain ⟨m, hm, hl⟩ := h2.len
    have hl2 : (gaddF g1 t p).bs.length = 48 * (m + 1) := by simp only [gaddF, List.length_append]; omega
    cases last
    · simp only [cond_false]
      split
      · exact ⟨⟨m + 1, by omega, hl2⟩, h2.byt.app hb, hb2.1, hb2.2, h2.l0, by have := h2.l1; simp only [gaddF]; omega⟩
      · refine ⟨⟨0, by omega, rfl⟩, Bytes.nil, hb2.1, hb2.2, ?_, ?_⟩
        · have := h2.l0; simp only [loseF, gaddF]; omega
        · have := h2.l1; simp only [loseF, gaddF]; omega
    · simp only [cond_true]
      refine ⟨⟨0, by omega, rfl⟩, Bytes.nil, hb2.1, hb2.2, ?_, ?_⟩
      · have := h2.l0; have := lostE_rng (unE (g1.bs ++ p)) g1.lost; simp only [outF, gaddF]; omega
      · have := h2.l1; have := lostE_rng (unE (g1.bs ++ p)) g1.lost; simp only [outF, gaddF]; omega
  · simp only [cond_true]
    exact (h2.skip (!last)).mono (by omega)
end Go.Proofs.YtcablikikkmfjaaGreat
end

section
/- Drawn regions: new rows whose order is open. -/
set_option linter.unusedVariables false
set_option linter.unusedSimpArgs false
namespace Go.Vc
open Go.RowKit
section
variable {r : Option Nat} {n : Nat} {ds : List Deferred} {P : Program} {ops : Array Oper} {Q : Exit → Act → World → Prop} {l : List (Nat × Value)} {w : World}
end
end Go.Vc
end

section
/- Layer 15: elements as they lie in memory, and what they tell. -/
set_option linter.unusedVariables false
set_option linter.unusedSimpArgs false
namespace Go.Proofs.YtcablikikkmfjaaGreat
open Go.Vc
/-- An element: its number, and where its body lies. -/
structure IeV where
  id : Int
  A : Option Addr
  n : Nat
  c : Nat
  bs : List Int
abbrev IeD := Int × List Int
def IeV.val (x : IeV) : IeD := (x.id, x.bs)
def ieC (x : IeV) : List Value := [.int .u8 x.id, .slice x.A x.n x.c]
def ieL (l : List IeV) : List Value := l.flatMap ieC
theorem ieL_app (l l' : List IeV) : ieL (l ++ l') = ieL l ++ ieL l' := by simp [ieL]
theorem ieL_one (x : IeV) : ieL [x] = ieC x := by simp [ieL]
theorem ieL_len (l : List IeV) : (ieL l).length = l.length * 2 := by
  induction l with
  | nil => rfl
  | cons x r ih => rw [show ieL (x :: r) = ieC x ++ ieL r from List.flatMap_cons, List.length_append, ih, List.length_cons]; simp [ieC]; omega
theorem ieL_get {l : List IeV} {i : Nat} {x : IeV} (h : l[i]? = some x) : (ieL l)[i * 2]? = some (.int .u8 x.id) ∧ (ieL l)[i * 2 + 1]? = some (.slice x.A x.n x.c) := by
  induction l generalizing i with
  | nil => simp at h
  | cons y r ih =>
    rw [show ieL (y :: r) = ieC y ++ ieL r from List.flatMap_cons]
    cases i with
    | zero => simp at h; subst h; exact ⟨rfl, rfl⟩
    | succ i =>
      simp at h
      have := ih h
      rw [show (i + 1) * 2 = i * 2 + 2 by omega, show i * 2 + 2 + 1 = (i * 2 + 1) + 2 by omega]
      exact ⟨by simpa [ieC] using this.1, by simpa [ieC] using this.2⟩
/-- An element's body lies between two bounds. -/
structure IeOk (w : World) (lo hi : Nat) (x : IeV) : Prop where
  len : x.bs.length = x.n
  cap : x.n ≤ x.c
  sl : Sl2 w lo hi x.A (iL .u8 x.bs)
structure Ies (w : World) (lo hi : Nat) (A : Option Addr) (l : List IeV) : Prop where
  sl : Sl2 w lo hi A (ieL l)
  all : ∀ x ∈ l, IeOk w lo hi x
section
variable {F : Nat → Prop} {w w' : World} {lo hi lo' hi' : Nat} {A : Option Addr} {l : List IeV} {x : IeV} {P : Program}
theorem IeOk.step (h : IeOk w lo hi x) (hs : Step F w w') (hF : ∀ k, lo ≤ k → k < hi → ¬ F k) : IeOk w' lo hi x := ⟨h.len, h.cap, h.sl.step hs hF⟩
theorem IeOk.mono (h : IeOk w lo hi x) (h1 : lo' ≤ lo) (h2 : hi ≤ hi') : IeOk w lo' hi' x := ⟨h.len, h.cap, h.sl.mono h1 h2⟩
theorem Ies.step (h : Ies w lo hi A l) (hs : Step F w w') (hF : ∀ k, lo ≤ k → k < hi → ¬ F k) : Ies w' lo hi A l := ⟨h.sl.step hs hF, fun x hx => (h.all x hx).step hs hF⟩
theorem Ies.no (h : Ies w lo hi A l) (hs : Step No w w') : Ies w' lo hi A l := h.step hs fun _ _ _ => id
theorem Ies.mono (h : Ies w lo hi A l) (h1 : lo' ≤ lo) (h2 : hi ≤ hi') : Ies w lo' hi' A l := ⟨h.sl.mono h1 h2, fun x hx => (h.all x hx).mono h1 h2⟩
theorem Ies.nil : Ies w lo hi A [] := ⟨fun h => by simp [ieL] at h, fun x hx => by simp at hx⟩
theorem Ies.open (h : Ies w lo hi A l) (h0 : 0 < l.length) : ∃ b o, A = some ⟨b, o, none⟩ ∧ b < hi := by
  obtain ⟨b, o, hA, _, hb, _⟩ := h.sl (by rw [ieL_len]; omega)
  exact ⟨b, o, hA, hb⟩
theorem Ies.body {i : Nat} (h : Ies w lo hi A l) (hx : l[i]? = some x) : x.bs.length = x.n ∧ x.n ≤ x.c ∧ Sl w hi x.A (iL .u8 x.bs) :=
  have := h.all x (List.mem_of_getElem? hx)
  ⟨this.len, this.cap, this.sl.sl⟩
theorem Ies.ld {b o i : Nat} {t : TypeId} (h : Ies w lo hi (some ⟨b, o, none⟩) l) (ht : aggB P t = some 2) (hx : l[i]? = some x) : Loads P t w ⟨b, o + i * 2, none⟩ (.agg #[.int .u8 x.id, .slice x.A x.n x.c]) := by
  have hg := ieL_get hx
  have hs := h.sl.sl
  refine Loads.cells ht _ rfl fun j hj => ?_
  rw [add_none]
  match j, hj with
  | 0, _ => exact hs.get _ _ hg.1
  | 1, _ => rw [Nat.add_assoc]; exact hs.get _ _ hg.2
theorem Ies.ld0 {b o i : Nat} {t : TypeId} (h : Ies w lo hi (some ⟨b, o, none⟩) l) (ht : oneB P t = true) (hx : l[i]? = some x) : Loads P t w ⟨b, o + i * 2, none⟩ (.int .u8 x.id) := h.sl.sl.ld ht _ (ieL_get hx).1
end
/-- Elements as a row of one's own, their bodies rows, too. -/
structure Ier (w : World) (base : Nat) (e eB : TypeId) (A : Option Addr) (n c : Nat) (l : List IeV) : Prop where
  row : RwS w 2 base e A n c (ieL l)
  len : l.length = n
  body : ∀ x ∈ l, Rw w base eB x.A x.n x.c (iL .u8 x.bs)
section
variable {F : Nat → Prop} {w w' : World} {base n c : Nat} {e eB : TypeId} {A : Option Addr} {l : List IeV} {x : IeV} {P : Program}
theorem Ier.nil (w : World) (base : Nat) (e eB : TypeId) : Ier w base e eB none 0 0 [] := ⟨RwS.nil w 2 base e, rfl, fun x hx => by simp at hx⟩
theorem Ier.step (h : Ier w base e eB A n c l) (hs : Step F w w') (hF : ∀ k, base ≤ k → ¬ F k) : Ier w' base e eB A n c l := ⟨h.row.step hs hF, h.len, fun x hx => (h.body x hx).step hs hF⟩
theorem Ier.no (h : Ier w base e eB A n c l) (hs : Step No w w') : Ier w' base e eB A n c l := h.step hs fun _ _ => id
theorem Ier.low {base' : Nat} (h : Ier w base e eB A n c l) (hb : base' ≤ base) : Ier w base' e eB A n c l := ⟨h.row.low hb, h.len, fun x hx => (h.body x hx).low hb⟩
theorem Ier.push {A' : Option Addr} {c' : Nat} (h : Ier w base e eB A n c l) (hne : eB ≠ e) (hx : Rw w base eB x.A x.n x.c (iL .u8 x.bs)) (hs : Step (ownB A) w w') (hr : RwS w' 2 base e A' (n + 1) c' (ieL l ++ ieC x)) : Ier w' base e eB A' (n + 1) c' (l ++ [x]) := by
  refine ⟨by rw [ieL_app, ieL_one]; exact hr, by simp [h.len], fun y hy => ?_⟩
  have key : ∀ y : IeV, Rw w base eB y.A y.n y.c (iL .u8 y.bs) → Rw w' base eB y.A y.n y.c (iL .u8 y.bs) := fun y hy => (RwS.keepO hy.toS hs fun k hk => RwS.apart hy.toS h.row hne k hk).to1
  rcases List.mem_append.1 hy with hy | hy
  · exact key y (h.body y hy)
  · simp at hy; subst hy; exact key y hx
structure IerUb (A : Option Addr) (l : List IeV) (H : Nat) : Prop where
  row : UbA A H
  body : ∀ x ∈ l, UbA x.A H
theorem Ier.ub (h : Ier w base e eB A n c l) : IerUb A l w.heap.size := ⟨h.row.ub, fun x hx => (h.body x hx).ub⟩
end
/-! ### Numbers as bytes -/
def digL (v many : Nat) : List Int := (List.range many).map fun j => IntKind.wrap .u8 (((v : Nat) : Int).fdiv (2 ^ (8 * (many - 1 - j))))
theorem digL_len (v many : Nat) : (digL v many).length = many := by simp [digL]
theorem digL_bytes (v many : Nat) : Bytes (digL v many) := by
  intro x hx
  obtain ⟨j, _, rfl⟩ := List.mem_map.1 hx
  exact byte_wrap _
/-- The number that bytes are, the first one the highest. -/
def natL (bs : List Int) : Nat := bs.foldl (fun n x => n * 256 + x.toNat) 0
def getL (bs : List Int) : Int := bs.foldl (fun n x => bOr .i64 (IntKind.wrap .i64 (n * 2 ^ 8)) (IntKind.wrap .i64 x)) 0
theorem natL_lt : ∀ (bs : List Int) (a : Nat), Bytes bs → bs.foldl (fun n x => n * 256 + x.toNat) a < (a + 1) * 256 ^ bs.length
  | [], a, _ => by simp
  | x :: r, a, h => by
    have h1 := natL_lt r (a * 256 + x.toNat) h.tail
    have h2 := h.head
    rw [List.foldl_cons, List.length_cons, Nat.pow_succ]
    refine Nat.lt_of_lt_of_le h1 ?_
    rw [Nat.mul_comm (256 ^ r.length) 256, ← Nat.mul_assoc]
    exact Nat.mul_le_mul_right _ (by omega)
theorem getL_go (f : Int → Int → Int) (hf : ∀ (a b : Nat), a < 2 ^ 48 → b < 256 → f (a : Int) (b : Int) = ((a * 256 + b : Nat) : Int)) : ∀ (bs : List Int) (a : Nat), Bytes bs → (a + 1) * 256 ^ bs.length ≤ 2 ^ 56 → bs.foldl f (a : Int) = ((bs.foldl (fun n x => n * 256 + x.toNat) a : Nat) : Int)
  | [], a, _, _ => rfl
  | x :: r, a, h, hl => by
    have h2 := h.head
    rw [List.length_cons, Nat.pow_succ] at hl
    have hp : 1 ≤ 256 ^ r.length := Nat.one_le_pow _ _ (by omega)
    have ha : (a + 1) * 256 ≤ 2 ^ 56 := by
      refine Nat.le_trans ?_ hl
      rw [Nat.mul_comm (256 ^ r.length) 256, ← Nat.mul_assoc]
      exact Nat.le_mul_of_pos_right _ hp
    obtain ⟨b, rfl⟩ : ∃ b : Nat, x = (b : Int) := ⟨x.toNat, by omega⟩
    rw [List.foldl_cons, List.foldl_cons, hf a b (by omega) (by omega)]
    refine getL_go f hf r _ h.tail (Nat.le_trans ?_ hl)
    rw [Nat.mul_comm (256 ^ r.length) 256, ← Nat.mul_assoc]
    exact Nat.mul_le_mul_right _ (by omega)
theorem getL_eq {bs : List Int} (h : Bytes bs) (hl : bs.length ≤ 6) : getL bs = ((natL bs : Nat) : Int) :=
  getL_go _ (fun a b ha hb => by
    rw [show ((a : Nat) : Int) * 2 ^ 8 = ((a * 256 : Nat) : Int) by omega, wrap_i64 _ (by omega) (by omega), wrap_i64 _ (by omega) (by omega), bOr_i64 _ _ (by omega) (by omega), or_byte _ _ hb]) bs 0 h (by
      have : 256 ^ bs.length ≤ 256 ^ 6 := Nat.pow_le_pow_right (by omega) hl
      omega)
end Go.Proofs.YtcablikikkmfjaaGreat
end

section
/- Layers 1 to 4, plain: a header's check, headers as four bytes, cells. -/
set_option linter.unusedVariables false
set_option linter.unusedSimpArgs false
namespace Go.Proofs.YtcablikikkmfjaaGreat
open Go.Vc Go.RowKit

def eightB (bs : List Int) : Int := bXor .u8 (IntKind.wrap .u8 (restB bs 0 128 7)) 85
def synB (bs : List Int) : Int := bXor .u8 (bs.getD 4 0) (eightB (bs.take 4))
def turn1 (bs : List Int) (i : Nat) : List Int := bs.set (i / 8) (bXor .u8 (bs.getD (i / 8) 0) ((128 : Int).fdiv (2 ^ (i % 8))))
theorem turn1_len (bs : List Int) (i : Nat) : (turn1 bs i).length = bs.length := by unfold turn1; rw [List.length_set]
def patB (i : Nat) : List Int := turn1 [0, 0, 0, 0, 85] i
def bitF (s : Int) : Option Nat := (List.range 40).find? fun i => synB (patB i) == s
def bitV (s : Int) : Nat := (bitF s).getD 0
def bitOk (s : Int) : Bool := (bitF s).isSome
theorem bitF_hit {s : Int} {k : Nat} (hk : k < 40) (h : ∀ i, i < k → synB (patB i) ≠ s) (hs : synB (patB k) = s) : bitF s = some k := by
  unfold bitF
  rw [List.find?_eq_some_iff_getElem]
  refine ⟨by simpa using hs, k, by simpa using hk, by simp, fun j hj => ?_⟩
  simp only [List.getElem_range]
  simpa using h j hj
theorem bitF_miss {s : Int} (h : ∀ i, i < 40 → synB (patB i) ≠ s) : bitF s = none := by
  unfold bitF
  rw [List.find?_eq_none]
  intro i hi
  simpa using h i (by simpa using hi)
theorem bit_hit {s : Int} {k : Nat} (hk : k < 40) (h : ∀ i, i < k → synB (patB i) ≠ s) (hs : synB (patB k) = s) : bitV s = k ∧ bitOk s = true := by
  unfold bitV bitOk; rw [bitF_hit hk h hs]; exact ⟨rfl, rfl⟩
theorem bit_miss {s : Int} (h : ∀ i, i < 40 → synB (patB i) ≠ s) : bitV s = 0 ∧ bitOk s = false := by
  unfold bitV bitOk; rw [bitF_miss h]; exact ⟨rfl, rfl⟩
theorem bitV_lt (s : Int) : bitV s < 40 := by
  unfold bitV
  cases e : bitF s with
  | none => simp
  | some k =>
    unfold bitF at e
    have := List.mem_of_find?_eq_some e
    simpa using this
def sealH (bs : List Int) : List Int := bs ++ [eightB bs]
theorem sealH_len {bs : List Int} (h : bs.length = 4) : (sealH bs).length = 5 := by unfold sealH; rw [List.length_append, h]; rfl
theorem seal_put {bs : List Int} (h : bs.length = 4) : putL [0, 0, 0, 0, eightB bs] 0 bs = sealH bs := by
  unfold putL sealH
  rw [h]; rfl
/-- What a receiver tells of five bytes: four, and whether they count; and whether it is careful then. -/
def takeH (cf : Bool) (bs : List Int) : List Int := if synB bs = 0 then bs.take 4 else if cf = true ∨ bitOk (synB bs) = false then [0, 0, 0, 0] else (turn1 bs (bitV (synB bs))).take 4
def takeO (cf : Bool) (bs : List Int) : Bool := if synB bs = 0 then true else if cf = true ∨ bitOk (synB bs) = false then false else true
def takeC (bs : List Int) : Bool := synB bs != 0
theorem takeH_len {cf : Bool} {bs : List Int} (h : bs.length = 5) : (takeH cf bs).length = 4 := by
  unfold takeH
  split
  · rw [List.length_take, h]; rfl
  · split
    · rfl
    · rw [List.length_take, turn1_len, h]; rfl
theorem xor_self8 (a : Int) : bXor .u8 a a = 0 := by
  unfold bXor
  simp
  rfl
theorem syn_seal {bs : List Int} (h : bs.length = 4) : synB (sealH bs) = 0 := by
  unfold synB sealH
  rw [List.take_left' h, show (bs ++ [eightB bs]).getD 4 0 = eightB bs by rw [List.getD_eq_getElem?_getD, List.getElem?_append_right (by omega), h]; rfl]
  exact xor_self8 _

/-! ### Headers -/
structure Hd where
  g : Int
  v : Int
  c : Int
  p : Int
  l : Int
def Hd.z : Hd := ⟨0, 0, 0, 0, 0⟩
def hdOk (h : Hd) : Bool := decide ((0 ≤ h.g ∧ h.g < 16) ∧ (0 ≤ h.v ∧ h.v < 256) ∧ (0 ≤ h.c ∧ h.c < 65536) ∧ (0 ≤ h.p ∧ h.p < 8) ∧ (0 ≤ h.l ∧ h.l < 2))
def hdN (h : Hd) : Nat := h.g.toNat * 268435456 + h.v.toNat * 1048576 + h.c.toNat * 16 + h.p.toNat * 2 + h.l.toNat
def hdB (h : Hd) : List Int := digL (hdN h) 4
def unH (bs : List Int) : Hd := ⟨((natL bs / 268435456 % 16 : Nat) : Int), ((natL bs / 1048576 % 256 : Nat) : Int), ((natL bs / 16 % 65536 : Nat) : Int), ((natL bs / 2 % 8 : Nat) : Int), ((natL bs % 2 : Nat) : Int)⟩
theorem hdB_len (h : Hd) : (hdB h).length = 4 := digL_len _ _
theorem hdOk_iff {h : Hd} : hdOk h = true ↔ (0 ≤ h.g ∧ h.g < 16) ∧ (0 ≤ h.v ∧ h.v < 256) ∧ (0 ≤ h.c ∧ h.c < 65536) ∧ (0 ≤ h.p ∧ h.p < 8) ∧ (0 ≤ h.l ∧ h.l < 2) := by unfold hdOk; rw [decide_eq_true_eq]
theorem unH_ok (bs : List Int) : hdOk (unH bs) = true := by
  rw [hdOk_iff]; simp only [unH]; omega
theorem digL4 (n : Nat) : digL n 4 = [((n / 16777216 % 256 : Nat) : Int), ((n / 65536 % 256 : Nat) : Int), ((n / 256 % 256 : Nat) : Int), ((n % 256 : Nat) : Int)] := by
  have h3 : IntKind.wrap .u8 (((n : Nat) : Int).fdiv (2 ^ (8 * (4 - 1 - 0)))) = ((n / 16777216 % 256 : Nat) : Int) := by rw [fdiv_nat, wrap_u8]
  have h2 : IntKind.wrap .u8 (((n : Nat) : Int).fdiv (2 ^ (8 * (4 - 1 - 1)))) = ((n / 65536 % 256 : Nat) : Int) := by rw [fdiv_nat, wrap_u8]
  have h1 : IntKind.wrap .u8 (((n : Nat) : Int).fdiv (2 ^ (8 * (4 - 1 - 2)))) = ((n / 256 % 256 : Nat) : Int) := by rw [fdiv_nat, wrap_u8]
  have h0 : IntKind.wrap .u8 (((n : Nat) : Int).fdiv (2 ^ (8 * (4 - 1 - 3)))) = ((n % 256 : Nat) : Int) := by rw [fdiv_nat, wrap_u8]; simp
  show [_, _, _, _] = _
  simp only []
  rw [h3, h2, h1, h0]
theorem natL_dg (n : Nat) (h : n < 4294967296) : natL (digL n 4) = n := by
  rw [digL4]
  simp only [natL, List.foldl_cons, List.foldl_nil, Int.toNat_natCast]
  omega
theorem un_pack {h : Hd} (ok : hdOk h = true) : unH (hdB h) = h := by
  have hh := hdOk_iff.1 ok
  obtain ⟨⟨a1, a2⟩, ⟨b1, b2⟩, ⟨c1, c2⟩, ⟨d1, d2⟩, ⟨e1, e2⟩⟩ := hh
  have hn : hdN h < 4294967296 := by unfold hdN; omega
  unfold unH hdB
  rw [natL_dg _ hn]
  unfold hdN
  cases h with
  | mk g v c p l =>
    simp only at a1 a2 b1 b2 c1 c2 d1 d2 e1 e2 ⊢
    congr 1 <;> omega
theorem fd_zero (x : Int) (k : Nat) : (¬ x < 0 ∧ x.fdiv (2 ^ k) = 0) ↔ 0 ≤ x ∧ x < 2 ^ k := by
  have hp : (0 : Int) < 2 ^ k := by have := Nat.two_pow_pos k; exact_mod_cast this
  rw [Int.fdiv_eq_ediv_of_nonneg _ (by omega)]
  constructor
  · rintro ⟨h1, h2⟩
    refine ⟨by omega, ?_⟩
    have h3 := Int.emod_add_mul_ediv x (2 ^ k)
    rw [h2] at h3
    have h4 := Int.emod_lt_of_pos x hp
    omega
  · rintro ⟨h1, h2⟩
    exact ⟨by omega, Int.ediv_eq_zero_of_lt h1 h2⟩
theorem hdR (h : Hd) : hdOk h = decide ((¬ h.g < 0 ∧ h.g.fdiv (2 ^ 4) = 0) ∧ (¬ h.v < 0 ∧ h.v.fdiv (2 ^ 8) = 0) ∧ (¬ h.c < 0 ∧ h.c.fdiv (2 ^ 16) = 0) ∧ (¬ h.p < 0 ∧ h.p.fdiv (2 ^ 3) = 0) ∧ (¬ h.l < 0 ∧ h.l.fdiv (2 ^ 1) = 0)) := by
  unfold hdOk
  rw [decide_eq_decide, fd_zero, fd_zero, fd_zero, fd_zero, fd_zero]
  constructor <;> intro h <;> omega
theorem or_pow (a b k : Nat) (hb : b < 2 ^ k) : a * 2 ^ k ||| b = a * 2 ^ k + b := by rw [Nat.mul_comm, Nat.two_pow_add_eq_or_of_lt hb]
def rawH (h : Hd) : Int := bOr .i64 (IntKind.wrap .i64 ((bOr .i64 (IntKind.wrap .i64 ((bOr .i64 (IntKind.wrap .i64 ((bOr .i64 (IntKind.wrap .i64 ((bOr .i64 0 h.g) * 2 ^ 8)) h.v) * 2 ^ 16)) h.c) * 2 ^ 3)) h.p) * 2 ^ 1)) h.l
theorem or_step (a b k : Nat) (hb : b < 2 ^ k) (ha : a * 2 ^ k < 2 ^ 40) (hk : k ≤ 16) : bOr .i64 (IntKind.wrap .i64 (((a : Nat) : Int) * 2 ^ k)) ((b : Nat) : Int) = ((a * 2 ^ k + b : Nat) : Int) := by
  have h16 : (2 : Nat) ^ k ≤ 2 ^ 16 := Nat.pow_le_pow_right (by decide) hk
  have e : ((a : Nat) : Int) * 2 ^ k = ((a * 2 ^ k : Nat) : Int) := by push_cast; rfl
  rw [e, wrap_i64 _ (by omega) (by omega), bOr_i64 _ _ (by omega) (by omega), or_pow a b k hb]
theorem rawH_eq {h : Hd} (ok : hdOk h = true) : rawH h = ((hdN h : Nat) : Int) := by
  obtain ⟨⟨a1, a2⟩, ⟨b1, b2⟩, ⟨c1, c2⟩, ⟨d1, d2⟩, ⟨e1, e2⟩⟩ := hdOk_iff.1 ok
  unfold rawH hdN
  obtain ⟨g, hg⟩ := Int.eq_ofNat_of_zero_le a1
  obtain ⟨v, hv⟩ := Int.eq_ofNat_of_zero_le b1
  obtain ⟨c, hc⟩ := Int.eq_ofNat_of_zero_le c1
  obtain ⟨p, hp⟩ := Int.eq_ofNat_of_zero_le d1
  obtain ⟨l, hl⟩ := Int.eq_ofNat_of_zero_le e1
  rw [hg, hv, hc, hp, hl]
  have h0 : bOr .i64 0 ((g : Nat) : Int) = ((g : Nat) : Int) := by
    have := bOr_i64 0 g (by decide) (by omega)
    simpa using this
  rw [h0, or_step g v 8 (by omega) (by omega) (by decide), or_step _ c 16 (by omega) (by omega) (by decide), or_step _ p 3 (by omega) (by omega) (by decide), or_step _ l 1 (by omega) (by omega) (by decide)]
  simp only [Int.toNat_natCast]
  omega
theorem hdB_raw {h : Hd} (ok : hdOk h = true) : hdB h = [IntKind.wrap .u8 ((rawH h).fdiv (2 ^ 24)), IntKind.wrap .u8 ((rawH h).fdiv (2 ^ 16)), IntKind.wrap .u8 ((rawH h).fdiv (2 ^ 8)), IntKind.wrap .u8 ((rawH h).fdiv (2 ^ 0))] := by
  rw [rawH_eq ok]; rfl
theorem and_mask (n k m : Nat) (h : n < 2 ^ 62) (hm : m = 2 ^ k - 1) (hk : k ≤ 30) : bAnd .i64 ((n : Nat) : Int) ((m : Nat) : Int) = ((n % 2 ^ k : Nat) : Int) := by
  subst hm
  have h1 : (2 : Nat) ^ k ≤ 2 ^ 30 := Nat.pow_le_pow_right (by decide) hk
  have h0 := Nat.two_pow_pos k
  unfold bAnd
  rw [BitVec.ofInt_natCast, BitVec.ofInt_natCast, BitVec.toNat_and, BitVec.toNat_ofNat, BitVec.toNat_ofNat]
  show IntKind.wrap .i64 (((n % 2 ^ 64 &&& (2 ^ k - 1) % 2 ^ 64 : Nat)) : Int) = _
  have h2 := Nat.mod_lt n h0
  rw [Nat.mod_eq_of_lt (show n < 2 ^ 64 by omega), Nat.mod_eq_of_lt (show 2 ^ k - 1 < 2 ^ 64 by omega), Nat.and_two_pow_sub_one_eq_mod, wrap_i64 _ (by omega) (by omega)]
def rawU (bs : List Int) : Int := bOr .i64 (IntKind.wrap .i64 ((bOr .i64 (IntKind.wrap .i64 ((bOr .i64 (IntKind.wrap .i64 ((bOr .i64 0 (IntKind.wrap .i64 (bs.getD 0 0))) * 2 ^ 8)) (IntKind.wrap .i64 (bs.getD 1 0))) * 2 ^ 8)) (IntKind.wrap .i64 (bs.getD 2 0))) * 2 ^ 8)) (IntKind.wrap .i64 (bs.getD 3 0))
theorem rawU_eq {bs : List Int} (hn : bs.length = 4) (hb : Bytes bs) : rawU bs = ((natL bs : Nat) : Int) := by
  match bs, hn with
  | [a, b, c, d], _ =>
    rw [← getL_eq hb (by simp)]
    rfl
theorem natL_4 {bs : List Int} (hn : bs.length = 4) (hb : Bytes bs) : natL bs < 4294967296 := by
  have := natL_lt bs 0 hb
  rw [hn] at this
  simpa [natL] using this
theorem unH_raw {bs : List Int} (hn : bs.length = 4) (hb : Bytes bs) : unH bs = ⟨bAnd .i64 ((rawU bs).fdiv (2 ^ 28)) 15, bAnd .i64 ((rawU bs).fdiv (2 ^ 20)) 255, bAnd .i64 ((rawU bs).fdiv (2 ^ 4)) 65535, bAnd .i64 ((rawU bs).fdiv (2 ^ 1)) 7, bAnd .i64 ((rawU bs).fdiv (2 ^ 0)) 1⟩ := by
  have h4 := natL_4 hn hb
  have e1 := and_mask (natL bs / 2 ^ 28) 4 15 (by omega) rfl (by decide)
  have e2 := and_mask (natL bs / 2 ^ 20) 8 255 (by omega) rfl (by decide)
  have e3 := and_mask (natL bs / 2 ^ 4) 16 65535 (by omega) rfl (by decide)
  have e4 := and_mask (natL bs / 2 ^ 1) 3 7 (by omega) rfl (by decide)
  have e5 := and_mask (natL bs / 2 ^ 0) 1 1 (by omega) rfl (by decide)
  unfold unH
  rw [rawU_eq hn hb, fdiv_nat, fdiv_nat, fdiv_nat, fdiv_nat, fdiv_nat]
  rw [show (15 : Int) = ((15 : Nat) : Int) from rfl, show (255 : Int) = ((255 : Nat) : Int) from rfl, show (65535 : Int) = ((65535 : Nat) : Int) from rfl, show (7 : Int) = ((7 : Nat) : Int) from rfl, e1, e2, e3, e4]
  rw [show bAnd .i64 ((natL bs / 2 ^ 0 : Nat) : Int) 1 = ((natL bs / 2 ^ 0 % 2 ^ 1 : Nat) : Int) from e5]
  simp
/-- What a cell with that header is. -/
def kindH (h : Hd) : Int :=
  if h.v = 0 ∧ h.c = 0 ∧ h.p = 0 ∧ h.l = 1 then 2 else if h.v = 0 ∧ h.c = 0 ∧ h.l = 0 then 3 else if h.c = 0 then 10 else if h.c = 3 then 4 else if h.c = 4 then 5 else if h.c = 6 ∧ h.p = 6 then 9
  else if h.p = 4 then 6 else if h.p = 5 then 7 else if h.p = 6 then 8 else if h.p = 7 then 10 else 1
def emptyH (h : Hd) : Bool := kindH h == 2 || kindH h == 3
/-! ### Cells -/
def buildL (h : Hd) (p : List Int) : List Int := if hdOk h = true then sealH (hdB h) ++ p else []
theorem buildL_len {h : Hd} {p : List Int} (hp : p.length = 48) : (buildL h p).length = if hdOk h = true then 53 else 0 := by
  unfold buildL
  split
  · rw [List.length_append, sealH_len (hdB_len h), hp]
  · rfl
def parseE (cf : Bool) (b : List Int) : Int := if b.length < 53 then 2 else if 53 < b.length then 3 else if takeO cf (b.take 5) = true then 0 else 4
def parseH (cf : Bool) (b : List Int) : Hd := if parseE cf b = 0 then unH (takeH cf (b.take 5)) else Hd.z
def parseP (cf : Bool) (b : List Int) : List Int := if parseE cf b = 0 then b.drop 5 else List.replicate 48 0
def parseC (cf : Bool) (b : List Int) : Bool := if b.length = 53 then takeC (b.take 5) else cf
theorem parseP_len (cf : Bool) (b : List Int) : (parseP cf b).length = 48 := by
  unfold parseP
  split
  · rename_i h
    unfold parseE at h
    split at h
    · cases h
    · split at h
      · cases h
      · rw [List.length_drop]; omega
  · simp
theorem parse_build {cf : Bool} {h : Hd} {p : List Int} (ok : hdOk h = true) (hp : p.length = 48) : parseE cf (buildL h p) = 0 ∧ parseH cf (buildL h p) = h ∧ parseP cf (buildL h p) = p ∧ parseC cf (buildL h p) = false := by
  have hb : buildL h p = sealH (hdB h) ++ p := by unfold buildL; rw [if_pos ok]
  have hs := sealH_len (hdB_len h)
  have hl : (buildL h p).length = 53 := by rw [buildL_len hp, if_pos ok]
  have ht : (buildL h p).take 5 = sealH (hdB h) := by rw [hb, List.take_left' hs]
  have h0 := syn_seal (hdB_len h)
  have hE : parseE cf (buildL h p) = 0 := by
    unfold parseE
    rw [if_neg (by omega), if_neg (by omega), ht]
    unfold takeO
    rw [if_pos h0, if_pos rfl]
  refine ⟨hE, ?_, ?_, ?_⟩
  · unfold parseH
    rw [if_pos hE, ht]
    unfold takeH
    rw [if_pos h0, show (sealH (hdB h)).take 4 = hdB h from by unfold sealH; rw [List.take_left' (hdB_len h)]]
    exact un_pack ok
  · unfold parseP
    rw [if_pos hE, hb, List.drop_left' hs]
  · unfold parseC
    rw [if_pos hl, ht]
    unfold takeC
    rw [h0]; rfl
theorem takeH_bytes {cf : Bool} {bs : List Int} (hb : Bytes bs) : Bytes (takeH cf (bs.take 5)) := by
  unfold takeH
  split
  · exact (hb.take 5).take 4
  · split
    · intro x hx; simp only [List.mem_cons, List.mem_nil_iff, or_false] at hx; omega
    · refine Bytes.take ?_ 4
      unfold turn1
      intro x hx
      rcases List.mem_or_eq_of_mem_set hx with h | h
      · exact hb.take 5 x h
      · rw [h]; exact byte_wrap _
theorem parse_short {cf : Bool} {bs : List Int} (h : bs.length < 53) : parseH cf bs = Hd.z ∧ parseP cf bs = List.replicate 48 0 ∧ parseE cf bs = 2 ∧ parseC cf bs = cf := by
  have e : parseE cf bs = 2 := by unfold parseE; rw [if_pos h]
  refine ⟨?_, ?_, e, ?_⟩
  · unfold parseH; rw [e]; rfl
  · unfold parseP; rw [e]; rfl
  · unfold parseC; rw [if_neg (by omega)]
theorem parse_long {cf : Bool} {bs : List Int} (h : 53 < bs.length) : parseH cf bs = Hd.z ∧ parseP cf bs = List.replicate 48 0 ∧ parseE cf bs = 3 ∧ parseC cf bs = cf := by
  have e : parseE cf bs = 3 := by unfold parseE; rw [if_neg (by omega), if_pos h]
  refine ⟨?_, ?_, e, ?_⟩
  · unfold parseH; rw [e]; rfl
  · unfold parseP; rw [e]; rfl
  · unfold parseC; rw [if_neg (by omega)]
theorem parse_sum {cf : Bool} {bs : List Int} (h : bs.length = 53) (ho : takeO cf (bs.take 5) = false) : parseH cf bs = Hd.z ∧ parseP cf bs = List.replicate 48 0 ∧ parseE cf bs = 4 ∧ parseC cf bs = takeC (bs.take 5) := by
  have e : parseE cf bs = 4 := by unfold parseE; rw [if_neg (by omega), if_neg (by omega), ho]; rfl
  refine ⟨?_, ?_, e, ?_⟩
  · unfold parseH; rw [e]; rfl
  · unfold parseP; rw [e]; rfl
  · unfold parseC; rw [if_pos h]
theorem parse_ok {cf : Bool} {bs : List Int} (h : bs.length = 53) (ho : takeO cf (bs.take 5) = true) : parseH cf bs = unH (takeH cf (bs.take 5)) ∧ parseP cf bs = bs.drop 5 ∧ parseE cf bs = 0 ∧ parseC cf bs = takeC (bs.take 5) := by
  have e : parseE cf bs = 0 := by unfold parseE; rw [if_neg (by omega), if_neg (by omega), ho]; rfl
  refine ⟨?_, ?_, e, ?_⟩
  · unfold parseH; rw [e]; rfl
  · unfold parseP; rw [e]; rfl
  · unfold parseC; rw [if_pos h]
theorem bytes_eight (bs : List Int) : 0 ≤ eightB bs ∧ eightB bs < 256 := byte_wrap _
theorem buildL_bytes {h : Hd} {p : List Int} (hp : Bytes p) : Bytes (buildL h p) := by
  unfold buildL
  split
  · exact ((digL_bytes _ _).app (Bytes.cons (bytes_eight _) Bytes.nil)).app hp
  · exact Bytes.nil
theorem parseH_ok (cf : Bool) (b : List Int) : hdOk (parseH cf b) = true := by
  unfold parseH
  split
  · exact unH_ok _
  · decide
end Go.Proofs.YtcablikikkmfjaaGreat
end

section
/- Layer 19, plain: what happens to a call. -/
set_option linter.unusedVariables false
set_option linter.unusedSimpArgs false
namespace Go.Proofs.YtcablikikkmfjaaGreat
open Go.Vc Go.RowKit

structure CS where
  ph : Int
  due : Int
  tr : Int
structure Tm where
  s : Int
  c : Int
  r : Int
end Go.Proofs.YtcablikikkmfjaaGreat
end

section
/- Layer 22, plain: what a plane knows. -/
set_option linter.unusedVariables false
set_option linter.unusedSimpArgs false
namespace Go.Proofs.YtcablikikkmfjaaGreat
open Go.Vc Go.RowKit

structure Wy where
  ip : Int
  iv : Int
  ic : Int
  op : Int
  ov : Int
  oc : Int
  al : Al
  cl : Bool
def Wy.e0 (y : Wy) : Ent := ⟨y.ip, y.iv, y.ic, 0⟩
def keyW (p v c : Int) (y : Wy) : Bool := decide (y.ip = p ∧ y.iv = v ∧ y.ic = c)
theorem keyW_iff {p v c : Int} {y : Wy} : keyW p v c y = true ↔ y.ip = p ∧ y.iv = v ∧ y.ic = c := by unfold keyW; rw [decide_eq_true_eq]
def findW (W : List Wy) (p v c : Int) : Option Wy := W.find? (keyW p v c)
def aheadW (W : List Wy) (p v c : Int) : Nat := aheadE (W.map Wy.e0) p v c
def insW (W : List Wy) (y : Wy) : List Wy := W.take (aheadW W y.ip y.iv y.ic) ++ y :: W.drop (aheadW W y.ip y.iv y.ic)
def setW (W : List Wy) (p v c : Int) (f : Wy → Wy) : List Wy := W.map fun y => if keyW p v c y = true then f y else y
structure Lk where
  cf : Bool
  ga : Ga
  dn : Bool
abbrev KM := List ((Int × Int) × (CS × (Int × Int × Int)))
structure PS where
  rooms : List Int
  L : List Cx
  W : List Wy
  K : KM
  lk : List Lk
  tm : Tm
  wait : Int
  now : Int
  cn : Nat → Int
def bump (cn : Nat → Int) (i : Nat) : Nat → Int := fun j => if j = i then cn j + 1 else cn j
theorem bump_le {cn : Nat → Int} {n : Nat} (h : ∀ j, 0 ≤ cn j ∧ cn j ≤ n) (i : Nat) : ∀ j, 0 ≤ bump cn i j ∧ bump cn i j ≤ ((n + 1 : Nat) : Int) := by
  intro j
  have := h j
  unfold bump
  split <;> omega
def hereP (p : Int) : Nat → Int := fun i => if i = 0 then IntKind.wrap .u8 p else 0
theorem hereP_byte (p : Int) : inByte (hereP p) := by
  intro i
  unfold hereP
  split
  · exact byte_wrap p
  · omega
def lkOk (st : PS) (p : Int) : Bool := decide (0 ≤ p ∧ p < st.lk.length)
theorem lkOk_iff {st : PS} {p : Int} : lkOk st p = true ↔ 0 ≤ p ∧ p < st.lk.length := by unfold lkOk; rw [decide_eq_true_eq]
def lkAt (st : PS) (p : Int) : Lk := st.lk.getD p.toNat ⟨false, ⟨1, 0, 0, [], false⟩, false⟩
/-- What a way's opening comes to. -/
def okIn (st : PS) (ip iv ic ov : Int) : Bool := lkOk st ip && (rightB ip iv ic && (decide (32 ≤ ic) && decide (iv ≤ 255 ∧ ov ≤ 255)))
def openK (st : PS) (ip iv ic op ov oc : Int) (k : Con) : Int :=
  if okIn st ip iv ic ov = true then (if (findW st.W ip iv ic).isSome = true then 35 else chkN st.rooms st.L op ov oc k) else 3
def newW (st : PS) (ip iv ic op ov oc : Int) : Wy := ⟨ip, iv, ic, op, ov, oc, downA (newA (hereP ip) st.wait) (lkAt st ip).dn, false⟩
def openS (st : PS) (ip iv ic op ov oc : Int) (k : Con) : PS :=
  if openK st ip iv ic op ov oc k = 0 then { st with L := takeN st.rooms st.L op ov oc k, W := insW st.W (newW st ip iv ic op ov oc) } else st
/-- What a plane keeps true. -/
structure PI (st : PS) (n : Nat) : Prop where
  len : st.W.length = st.L.length
  out : ∀ y ∈ st.W, (findC st.L y.op y.ov y.oc).isSome = true
  one : st.W.Pairwise fun x y => ¬ (x.op = y.op ∧ x.ov = y.ov ∧ x.oc = y.oc)
  inn : ∀ y ∈ st.W, (0 ≤ y.ip ∧ y.ip < st.lk.length) ∧ rightB y.ip y.iv y.ic = true ∧ 32 ≤ y.ic ∧ y.iv ≤ 255 ∧ y.ov ≤ 255
  srt : SrtE (st.W.map Wy.e0)
  als : ∀ y ∈ st.W, waits y.al ∧ inByte y.al.here
  now : 0 ≤ st.now ∧ st.now ≤ 1152921504606846976
  cn : ∀ j, 0 ≤ st.cn j ∧ st.cn j ≤ n
  nl : st.lk.length ≤ 8
  nr : st.rooms.length = st.lk.length
  ga : ∀ l ∈ st.lk, GaI l.ga n
theorem PI.more {st : PS} {n m : Nat} (h : PI st n) (hm : n ≤ m) : PI st m := { h with cn := fun j => ⟨(h.cn j).1, by have := (h.cn j).2; omega⟩, ga := fun l hl => (h.ga l hl).mono hm }
theorem findW_none {W : List Wy} {p v c : Int} : findW W p v c = none ↔ ∀ y ∈ W, ¬ (y.ip = p ∧ y.iv = v ∧ y.ic = c) := by
  unfold findW
  rw [List.find?_eq_none]
  exact ⟨fun h x hx he => h x hx (keyW_iff.2 he), fun h x hx he => h x hx (keyW_iff.1 he)⟩
theorem len_insW (W : List Wy) (y : Wy) : (insW W y).length = W.length + 1 := by
  unfold insW
  rw [List.length_append, List.length_cons]
  have := congrArg List.length (List.take_append_drop (aheadW W y.ip y.iv y.ic) W)
  rw [List.length_append] at this
  omega
theorem mem_insW {W : List Wy} {x y : Wy} : y ∈ insW W x ↔ y = x ∨ y ∈ W := by
  unfold insW
  rw [List.mem_append, List.mem_cons]
  have h : y ∈ W ↔ y ∈ W.take (aheadW W x.ip x.iv x.ic) ∨ y ∈ W.drop (aheadW W x.ip x.iv x.ic) := by rw [← List.mem_append, List.take_append_drop]
  rw [h]
  exact ⟨fun h => by rcases h with h | h | h; exact .inr (.inl h); exact .inl h; exact .inr (.inr h), fun h => by rcases h with h | h | h; exact .inr (.inl h); exact .inl h; exact .inr (.inr h)⟩
theorem map_insW (W : List Wy) (y : Wy) : (insW W y).map Wy.e0 = insE (W.map Wy.e0) y.e0 := by
  unfold insW insE aheadW
  simp only [List.map_append, List.map_cons, List.map_take, List.map_drop]
  rfl
theorem openK_zero {st : PS} {ip iv ic op ov oc : Int} {k : Con} (h : openK st ip iv ic op ov oc k = 0) : okIn st ip iv ic ov = true ∧ findW st.W ip iv ic = none ∧ chkN st.rooms st.L op ov oc k = 0 := by
  unfold openK at h
  split at h
  · rename_i h1
    split at h
    · cases h
    · rename_i h2
      refine ⟨h1, ?_, h⟩
      cases e : findW st.W ip iv ic with
      | none => rfl
      | some y => rw [e] at h2; exact absurd rfl h2
  · cases h
theorem okIn_iff {st : PS} {ip iv ic ov : Int} : okIn st ip iv ic ov = true ↔ (0 ≤ ip ∧ ip < st.lk.length) ∧ rightB ip iv ic = true ∧ 32 ≤ ic ∧ iv ≤ 255 ∧ ov ≤ 255 := by
  unfold okIn
  rw [Bool.and_eq_true, Bool.and_eq_true, Bool.and_eq_true, lkOk_iff, decide_eq_true_eq, decide_eq_true_eq]
theorem findC_ins {L : List Cx} {x : Cx} {p v c : Int} (h : OneK (insC L x)) : findC (insC L x) p v c = if x.p = p ∧ x.v = v ∧ x.c = c then some x else findC L p v c := by
  split
  · rename_i e
    have := findC_mem h (mem_insC.2 (.inl rfl))
    rwa [e.1, e.2.1, e.2.2] at this
  · rename_i hne
    cases e : findC L p v c with
    | none =>
      rw [findC_none] at e ⊢
      intro y hy
      rcases mem_insC.1 hy with rfl | hy
      · exact hne
      · exact e y hy
    | some z =>
      obtain ⟨z1, z2, z3, z4⟩ := findC_some e
      have := findC_mem h (mem_insC.2 (.inr z1))
      rwa [z2, z3, z4] at this
theorem PI.opened {st : PS} {n : Nat} {ip iv ic op ov oc : Int} {k : Con} (h : PI st n) (hL : LI st.rooms st.L) : PI (openS st ip iv ic op ov oc k) n := by
  unfold openS
  split
  · rename_i h0
    obtain ⟨h1, h2, h3⟩ := openK_zero h0
    obtain ⟨a1, a2, a3, a4, a5⟩ := okIn_iff.1 h1
    obtain ⟨c1, c2, c3, c4⟩ := chkN_zero h3
    have hL' := (hL.take op ov oc k).one
    have ht : takeN st.rooms st.L op ov oc k = insC st.L ⟨op, ov, oc, k, rulesC k⟩ := by unfold takeN; rw [if_pos h3]
    rw [ht] at hL'
    have hfi : ∀ p v c, findC (insC st.L ⟨op, ov, oc, k, rulesC k⟩) p v c = if op = p ∧ ov = v ∧ oc = c then some ⟨op, ov, oc, k, rulesC k⟩ else findC st.L p v c := fun p v c => findC_ins hL'
    refine { len := by simp only [ht]; rw [len_insW, len_insC, h.len], out := fun y hy => ?_, one := ?_, inn := fun y hy => ?_, srt := ?_, als := fun y hy => ?_, now := h.now, cn := h.cn, nl := h.nl, nr := h.nr, ga := h.ga }
    · simp only [ht]
      rw [hfi]
      rcases mem_insW.1 hy with rfl | hy
      · rw [if_pos ⟨rfl, rfl, rfl⟩]; rfl
      · split
        · rfl
        · exact h.out y hy
    · have hnew : ∀ y ∈ st.W, ¬ (y.op = op ∧ y.ov = ov ∧ y.oc = oc) := fun y hy e => by
        have := h.out y hy
        rw [e.1, e.2.1, e.2.2, c2] at this
        cases this
      simp only [insW]
      have hp := h.one
      rw [← List.take_append_drop (aheadW st.W (newW st ip iv ic op ov oc).ip (newW st ip iv ic op ov oc).iv (newW st ip iv ic op ov oc).ic) st.W] at hp
      rw [List.pairwise_append] at hp ⊢
      refine ⟨hp.1, List.pairwise_cons.2 ⟨fun y hy e => hnew y (List.mem_of_mem_drop hy) ⟨e.1.symm, e.2.1.symm, e.2.2.symm⟩, hp.2.1⟩, fun x hx y hy => ?_⟩
      rcases List.mem_cons.1 hy with rfl | hy
      · exact hnew x (List.mem_of_mem_take hx)
      · exact hp.2.2 x hx y hy
    · rcases mem_insW.1 hy with rfl | hy
      · exact ⟨a1, a2, a3, a4, a5⟩
      · exact h.inn y hy
    · simp only [map_insW]
      refine insE_srt h.srt fun z hz => ?_
      obtain ⟨y, hy, rfl⟩ := List.mem_map.1 hz
      exact findW_none.1 h2 y hy
    · rcases mem_insW.1 hy with rfl | hy
      · exact ⟨newA_waits (hereP ip) st.wait, hereP_byte ip⟩
      · exact h.als y hy
  · exact h
/-! ### What a cell comes to -/
def recvS (st : PS) (i : Nat) (t : Int) (b : List Int) : PS := { st with now := t, lk := st.lk.set i { lkAt st ((i : Nat) : Int) with cf := parseC (lkAt st ((i : Nat) : Int)).cf b } }
def verP (st : PS) (y : Wy) (hh : Hd) : Int := verV st.L y.op y.ov y.oc st.now hh.l
def passO (st : PS) (y : Wy) (hh : Hd) (ps : List Int) : List (Int × List Int) := if verP st y hh = 3 then [] else [(y.op, buildL ⟨0, y.ov, y.oc, hh.p, if verP st y hh = 2 then 1 else hh.l⟩ ps)]
def passS (st : PS) (q v c : Int) (y : Wy) (hh : Hd) (user : Bool) : PS := { st with L := verN st.L y.op y.ov y.oc st.now hh.l, cn := bump st.cn (if verP st y hh = 3 then 8 else if verP st y hh = 2 then 7 else 6), W := setW st.W q v c fun x => { x with al := if user = true ∧ verP st y hh ≠ 3 then userA y.al else y.al } }
theorem lkAt_some {st : PS} {i : Nat} {l : Lk} (hl : st.lk[i]? = some l) : lkAt st ((i : Nat) : Int) = l := by
  unfold lkAt; rw [Int.toNat_natCast, List.getD_eq_getElem?_getD, hl]; rfl
theorem PI.recv {st : PS} {n i : Nat} {t : Int} {l : Lk} {b : List Int} (h : PI st n) (hl : st.lk[i]? = some l) (ht : 0 ≤ t ∧ t ≤ 1152921504606846976) : PI (recvS st i t b) n := by
  have hlen : (recvS st i t b).lk.length = st.lk.length := by unfold recvS; simp
  have hga : ∀ l' ∈ (recvS st i t b).lk, GaI l'.ga n := fun l' hl' => by
    unfold recvS at hl'
    simp only at hl'
    rcases List.mem_or_eq_of_mem_set hl' with h1 | h1
    · exact h.ga l' h1
    · rw [h1, lkAt_some hl]; exact h.ga l (List.mem_of_getElem? hl)
  exact { h with now := ht, nl := by rw [hlen]; exact h.nl, nr := by rw [hlen]; exact h.nr, inn := fun y hy => (by rw [hlen]; exact h.inn y hy), ga := hga }
end Go.Proofs.YtcablikikkmfjaaGreat
end

section
/- Layer 20: contracts, what they cost, buckets. -/
set_option linter.unusedVariables false
set_option linter.unusedSimpArgs false
set_option maxRecDepth 100000
set_option maxHeartbeats 4000000
namespace Go.Proofs.YtcablikikkmfjaaGreat
open Go.Vc Go.RowKit
theorem TAd1aa {P : Prop} (h : P := by first | exact Eq.symm (by assumption) | exact right11 (by omega) (by omega) (by assumption) | exact right12 (by omega)) : P := h
theorem TAd1ab {P : Prop} (h : P := by first | exact need_no (by assumption) | exact need_cbr (by assumption) (by assumption) | exact need_abr (by assumption) (by assumption) | exact need_vbr (by assumption) (by omega) | (exfalso; omega) | exact need_ubr (by assumption) (by assumption) (by assumption) (by assumption) (by assumption) (by assumption)) : P := h
theorem TAd1ac {P : Prop} (h : P := by intro i hi; first | exact hi | exact ⟨_, by assumption, hi⟩ | (have hi9 : i = bk := hi; (first | show _ ∨ _ | show _ = _); omega)) : P := h
theorem TAd1ad {P : Prop} (h : P := by first | exact fits_no (by first | assumption | simp_all) | exact fits_yes hb.toBkOk (by first | assumption | simp_all)) : P := h
theorem TAd1ae {P : Prop} (h : P := by first | exact always_no (by assumption) | exact always_yes (by assumption)) : P := h

theorem span_w (n a : Int) (w : World) :
  CV Tryz.prog 62 #[I6 n, I6 a] w (fun x w1 => x = Bo (spanB n a) ∧ w1 = w) := by
 refine VCe Tryz.func62 (Vrp (Vs (Vr (Vp 4 (Vand 8 11 7 [] (decide (n ≥ a)) (decide (n ≤ 1099511627776)) (fun hg1 J1 => ?_) ?_)))))
 ·exact Vp 7 (Vk [11] J1)
 refine Ve (Vn (VC_ret (Vr1 (Bo ((decide (n ≥ a)) && (decide (n ≤ 1099511627776)))) ?_)))
 exact ⟨rfl, rfl⟩

theorem span_ce (n a : Int) : CE Tryz.prog 62 #[.int .i64 n, .int .i64 a] (.bool (spanB n a)) := fun w => span_w n a w
theorem within_w (q a b : Int) (w : World) :
  CV Tryz.prog 294 #[I6 q, I6 a, I6 b] w (fun x w1 => x = I6 (imax a (imin q b)) ∧ w1 = w) := by
 refine VCe Tryz.func294 (Vrp (Vrp (VC_ret (Vr1 (I6 (imax a (imin q b))) ?_))))
 exact ⟨rfl, rfl⟩

theorem within_ce (q a b : Int) : CE Tryz.prog 294 #[.int .i64 q, .int .i64 a, .int .i64 b] (.int .i64 (imax a (imin q b))) := fun w => within_w q a b w
theorem per_eq {s : Int} (h : ¬ s < 1) : IntKind.wrap .i64 (1 + IntKind.wrap .i64 ((1048575 : Int).tdiv s)) = perC s := by
  have h1 : 0 ≤ (1048575 : Int) / s := Int.ediv_nonneg (by decide) (by omega)
  have h2 : (1048575 : Int) / s ≤ 1048575 := Int.ediv_le_self _ (by decide)
  unfold perC
  rw [if_neg h, show (1048575 : Int).tdiv s = 1048575 / s from Int.tdiv_eq_ediv_of_nonneg (by decide), wrap_i64 (1048575 / s) (by omega) (by omega), wrap_i64 _ (by omega) (by omega)]
theorem up_eq {n b : Int} (h0 : 0 ≤ n) (h1 : n ≤ 2305843009213693952) (h2 : 1 ≤ b) (h3 : b ≤ 2305843009213693952) : IntKind.wrap .i64 ((IntKind.wrap .i64 (IntKind.wrap .i64 (n + b) - 1)).tdiv b) = upC n b := by
  unfold upC
  have h5 := Int.ediv_le_self b (a := n + b - 1) (by omega)
  have h6 : 0 ≤ (n + b - 1) / b := Int.ediv_nonneg (by omega) (by omega)
  rw [wrap_i64 (n + b) (by omega) (by omega), wrap_i64 (n + b - 1) (by omega) (by omega), Int.tdiv_eq_ediv_of_nonneg (by omega), wrap_i64 _ (by omega) (by omega)]
theorem per_w (s : Int) (w : World) :
  CV Tryz.prog 85 #[I6 s] w (fun x w1 => x = I6 (perC s) ∧ w1 = w) := by
 refine VCe Tryz.func85 (Vrp (Vs (Vrp (Vid (s < 1) (fun h1 => ?_) (fun h1 => ?_)))))
 ·refine Vrp (VC_ret (VQ_then_ret (Vr1 (I6 0) ?_)))
  exact ⟨congrArg (Value.int .i64) (by unfold perC; rw [if_pos h1]), rfl⟩
 ·refine VC_skip (Vn (Vs (Vr (VL_pure 1 [5] [(5, I6 s)] (by kernel_rfl) rfl (VL_quo (d := 6) (k := .i64) (x := 1048575) (y := s) (by kernel_rfl) (by kernel_rfl) (by omega) (Ve (Vn (VC_ret (Vr1 (I6 (IntKind.wrap .i64 (1 + (IntKind.wrap .i64 ((1048575 : Int).tdiv s))))) ?_)))))))))
  exact ⟨congrArg (Value.int .i64) ((per_eq h1)), rfl⟩

theorem per_ce (s : Int) : CE Tryz.prog 85 #[.int .i64 s] (.int .i64 (perC s)) := fun w => per_w s w
theorem up_w (n b : Int) (h0 : 0 ≤ n) (h1 : n ≤ 2305843009213693952) (h2 : 1 ≤ b) (h3 : b ≤ 2305843009213693952) (w : World) :
  CV Tryz.prog 86 #[I6 n, I6 b] w (fun x w1 => x = I6 (upC n b) ∧ w1 = w) := by
 refine VCe Tryz.func86 (Vrp (Vs (Vr (VL_pure 5 [8, 9] [(8, I6 (IntKind.wrap .i64 ((IntKind.wrap .i64 (n + b)) - 1))), (9, I6 b)] (by kernel_rfl) rfl (VL_quo (d := 10) (k := .i64) (x := (IntKind.wrap .i64 ((IntKind.wrap .i64 (n + b)) - 1))) (y := b) (by kernel_rfl) (by kernel_rfl) (by omega) (Ve (Vn (VC_ret (Vr1 (I6 (IntKind.wrap .i64 ((IntKind.wrap .i64 ((IntKind.wrap .i64 (n + b)) - 1)).tdiv b))) ?_)))))))))
 exact ⟨congrArg (Value.int .i64) (up_eq h0 h1 h2 h3), rfl⟩

theorem cright_any (c : Con) (w : World) :
  CV Tryz.prog 18 #[.agg #[I6 c.kind, I6 c.peak, I6 c.early, I6 c.whole, I6 c.burst, I6 c.least]] w (fun x w1 => x = I6 (rightC c) ∧ Step No w w1) := by
 have hS : Step No w w := Step.refl _ _
 refine VCe Tryz.func18 (Vs (Vr ?_))
 refine Vx 0 23 #[I6 c.kind, I6 c.peak, I6 c.early, I6 c.whole, I6 c.burst, I6 c.least] ?_
 intro b1 w1 hn1
 replace hS := Step.trans hS (hn1.step No)
 have ho1 := hn1.own
 refine Ve (Vn (Vs (Vr (Vl 1 ho1 ?_))))
 refine Vc 2 Tryz.call62 ((span_ce c.peak 1) w1) ?_
 rintro _ w2 ⟨rfl, hc1⟩
 subst w2
 refine Vp 4 (Vand 7 11 8 [1] (spanB c.peak 1) (spanB c.early 0) (fun hg1 J1 => ?_) ?_)
 ·refine Vl 5 ho1 ?_
  refine Vc 6 Tryz.call62 ((span_ce c.early 0) w1) ?_
  rintro _ w3 ⟨rfl, hc2⟩
  subst w3
  exact Vp 8 (Vk [11, 1] J1)
 refine Ve (Vn (Vs (Vs (Vr (Vl 1 ho1 (Ve (Vn (VC_block (Vs (Vrp (Vie c.kind 2 (fun h1 => ?_) (fun h1 => ?_))))))))))))
 ·refine VC_skip (Vn (Vie c.kind 2 (fun h2 => ?_) (fun h2 => ?_)))
  ·refine Vr (Vp 2 (Vand 19 25 8 [1] ((spanB c.peak 1) && (spanB c.early 0)) (spanB c.whole c.peak) (fun hg2 J2 => ?_) ?_))
   ·refine Vl 3 ho1 (Vl 5 ho1 ?_)
    refine Vc 6 Tryz.call62 ((span_ce c.whole c.peak) w1) ?_
    rintro _ w4 ⟨rfl, hc3⟩
    subst w4
    exact Vp 8 (Vk [25, 1] J2)
   refine Vp 9 (Vand 26 30 13 [1] (((spanB c.peak 1) && (spanB c.early 0)) && (spanB c.whole c.peak)) (spanB c.burst 0) (fun hg3 J3 => ?_) ?_)
   ·refine Vl 10 ho1 ?_
    refine Vc 11 Tryz.call62 ((span_ce c.burst 0) w1) ?_
    rintro _ w5 ⟨rfl, hc4⟩
    subst w5
    exact Vp 13 (Vk [30, 1] J3)
   refine Vp 14 (Vand 31 35 18 [] ((((spanB c.peak 1) && (spanB c.early 0)) && (spanB c.whole c.peak)) && (spanB c.burst 0)) (c.least == 0) (fun hg4 J4 => ?_) ?_)
   ·refine Vl 15 ho1 ?_
    exact Vp 18 (Vk [35] J4)
   refine Ve (VQ_block_normal (Vn (Vs (Vs ?_))))
   have hE : (((((spanB c.peak 1) && (spanB c.early 0)) && (spanB c.whole c.peak)) && (spanB c.burst 0)) && (c.least == 0)) = (rightC c == 0) := right_vbr (by omega)
   refine VqC 3 (Bo (((((spanB c.peak 1) && (spanB c.early 0)) && (spanB c.whole c.peak)) && (spanB c.burst 0)) && (c.least == 0))) (Bo ((rightC c) == 0)) (by rw [hE]) (Vr (Ve (Vn (Vif (!((rightC c) == 0)) (fun h3 => ?_) (fun h3 => ?_)))))
   ·try simp only [BB] at h3
    refine Vrp (VC_ret (VQ_then_ret (Vr1 (I6 11) ?_)))
    exact ⟨congrArg (Value.int .i64) TAd1aa, hS⟩
   ·try simp only [BB] at h3
    refine VC_skip (Vn (Vrp (VC_ret (Vr1 (I6 0) ?_))))
    exact ⟨congrArg (Value.int .i64) TAd1aa, hS⟩
  ·refine Vrp (Vie c.kind 5 (fun h4 => ?_) (fun h4 => ?_))
   ·refine Vr (Vp 2 (Vand 39 43 6 [1] ((spanB c.peak 1) && (spanB c.early 0)) (c.whole == 0) (fun hg5 J5 => ?_) ?_))
    ·refine Vl 3 ho1 ?_
     exact Vp 6 (Vk [43, 1] J5)
    refine Vp 7 (Vand 44 48 11 [1] (((spanB c.peak 1) && (spanB c.early 0)) && (c.whole == 0)) (c.burst == 0) (fun hg6 J6 => ?_) ?_)
    ·refine Vl 8 ho1 ?_
     exact Vp 11 (Vk [48, 1] J6)
    refine Vp 12 (Vand 49 60 23 [] ((((spanB c.peak 1) && (spanB c.early 0)) && (c.whole == 0)) && (c.burst == 0)) ((c.least == 0) || (spanB c.least c.peak)) (fun hg7 J7 => ?_) ?_)
    ·refine Vl 13 ho1 (Vp 16 (Vor 53 59 22 [49] (c.least == 0) (spanB c.least c.peak) (fun hg8 J8 => ?_) ?_))
     ·refine Vl 17 ho1 (Vl 19 ho1 ?_)
      refine Vc 20 Tryz.call62 ((span_ce c.least c.peak) w1) ?_
      rintro _ w6 ⟨rfl, hc5⟩
      subst w6
      exact Vp 22 (Vk [59, 49] J8)
     exact Vp 23 (Vk [60] J7)
    refine Ve (VQ_block_normal (Vn (Vs (Vs ?_))))
    have hE : (((((spanB c.peak 1) && (spanB c.early 0)) && (c.whole == 0)) && (c.burst == 0)) && ((c.least == 0) || (spanB c.least c.peak))) = (rightC c == 0) := right_abr (by omega)
    refine VqC 3 (Bo (((((spanB c.peak 1) && (spanB c.early 0)) && (c.whole == 0)) && (c.burst == 0)) && ((c.least == 0) || (spanB c.least c.peak)))) (Bo ((rightC c) == 0)) (by rw [hE]) (Vr (Ve (Vn (Vif (!((rightC c) == 0)) (fun h5 => ?_) (fun h5 => ?_)))))
    ·try simp only [BB] at h5
     refine Vrp (VC_ret (VQ_then_ret (Vr1 (I6 11) ?_)))
     exact ⟨congrArg (Value.int .i64) TAd1aa, hS⟩
    ·try simp only [BB] at h5
     refine VC_skip (Vn (Vrp (VC_ret (Vr1 (I6 0) ?_))))
     exact ⟨congrArg (Value.int .i64) TAd1aa, hS⟩
   ·refine Vs (Vrp (Vie c.kind 1 (fun h6 => ?_) (fun h6 => ?_)))
    ·refine VC_skip (Vn (Vie c.kind 1 (fun h7 => ?_) (fun h7 => ?_)))
     ·refine Vr (Vp 2 (Vand 66 70 6 [1] ((spanB c.peak 1) && (spanB c.early 0)) (c.whole == 0) (fun hg9 J9 => ?_) ?_))
      ·refine Vl 3 ho1 ?_
       exact Vp 6 (Vk [70, 1] J9)
      refine Vp 7 (Vand 71 75 11 [1] (((spanB c.peak 1) && (spanB c.early 0)) && (c.whole == 0)) (c.burst == 0) (fun hg10 J10 => ?_) ?_)
      ·refine Vl 8 ho1 ?_
       exact Vp 11 (Vk [75, 1] J10)
      refine Vp 12 (Vand 76 80 16 [] ((((spanB c.peak 1) && (spanB c.early 0)) && (c.whole == 0)) && (c.burst == 0)) (c.least == 0) (fun hg11 J11 => ?_) ?_)
      ·refine Vl 13 ho1 ?_
       exact Vp 16 (Vk [80] J11)
      refine Ve (VQ_block_normal (Vn (Vs (Vs ?_))))
      have hE : (((((spanB c.peak 1) && (spanB c.early 0)) && (c.whole == 0)) && (c.burst == 0)) && (c.least == 0)) = (rightC c == 0) := right_cbr (by omega)
      refine VqC 3 (Bo (((((spanB c.peak 1) && (spanB c.early 0)) && (c.whole == 0)) && (c.burst == 0)) && (c.least == 0))) (Bo ((rightC c) == 0)) (by rw [hE]) (Vr (Ve (Vn (Vif (!((rightC c) == 0)) (fun h8 => ?_) (fun h8 => ?_)))))
      ·try simp only [BB] at h8
       refine Vrp (VC_ret (VQ_then_ret (Vr1 (I6 11) ?_)))
       exact ⟨congrArg (Value.int .i64) TAd1aa, hS⟩
      ·try simp only [BB] at h8
       refine VC_skip (Vn (Vrp (VC_ret (Vr1 (I6 0) ?_))))
       exact ⟨congrArg (Value.int .i64) TAd1aa, hS⟩
     ·refine Vrp (VC_ret (VQ_block_ret (VQ_then_ret (Vr1 (I6 12) ?_))))
      exact ⟨congrArg (Value.int .i64) TAd1aa, hS⟩
    ·refine Vrp (Vie c.kind 6 (fun h9 => ?_) (fun h9 => ?_))
     ·refine VC_skip (Vn (Vie c.kind 6 (fun h10 => ?_) (fun h10 => ?_)))
      ·refine Vr (Vp 2 (Vand 66 70 6 [1] ((spanB c.peak 1) && (spanB c.early 0)) (c.whole == 0) (fun hg12 J12 => ?_) ?_))
       ·refine Vl 3 ho1 ?_
        exact Vp 6 (Vk [70, 1] J12)
       refine Vp 7 (Vand 71 75 11 [1] (((spanB c.peak 1) && (spanB c.early 0)) && (c.whole == 0)) (c.burst == 0) (fun hg13 J13 => ?_) ?_)
       ·refine Vl 8 ho1 ?_
        exact Vp 11 (Vk [75, 1] J13)
       refine Vp 12 (Vand 76 80 16 [] ((((spanB c.peak 1) && (spanB c.early 0)) && (c.whole == 0)) && (c.burst == 0)) (c.least == 0) (fun hg14 J14 => ?_) ?_)
       ·refine Vl 13 ho1 ?_
        exact Vp 16 (Vk [80] J14)
       refine Ve (VQ_block_normal (Vn (Vs (Vs ?_))))
       have hE : (((((spanB c.peak 1) && (spanB c.early 0)) && (c.whole == 0)) && (c.burst == 0)) && (c.least == 0)) = (rightC c == 0) := right_cbr (by omega)
       refine VqC 3 (Bo (((((spanB c.peak 1) && (spanB c.early 0)) && (c.whole == 0)) && (c.burst == 0)) && (c.least == 0))) (Bo ((rightC c) == 0)) (by rw [hE]) (Vr (Ve (Vn (Vif (!((rightC c) == 0)) (fun h11 => ?_) (fun h11 => ?_)))))
       ·try simp only [BB] at h11
        refine Vrp (VC_ret (VQ_then_ret (Vr1 (I6 11) ?_)))
        exact ⟨congrArg (Value.int .i64) TAd1aa, hS⟩
       ·try simp only [BB] at h11
        refine VC_skip (Vn (Vrp (VC_ret (Vr1 (I6 0) ?_))))
        exact ⟨congrArg (Value.int .i64) TAd1aa, hS⟩
      ·refine Vrp (VC_ret (VQ_block_ret (VQ_then_ret (Vr1 (I6 12) ?_))))
       exact ⟨congrArg (Value.int .i64) TAd1aa, hS⟩
     ·refine Vr (Ve (Vn (Vie c.kind 7 (fun h12 => ?_) (fun h12 => ?_))))
      ·refine Vr (Vp 2 (Vand 66 70 6 [1] ((spanB c.peak 1) && (spanB c.early 0)) (c.whole == 0) (fun hg15 J15 => ?_) ?_))
       ·refine Vl 3 ho1 ?_
        exact Vp 6 (Vk [70, 1] J15)
       refine Vp 7 (Vand 71 75 11 [1] (((spanB c.peak 1) && (spanB c.early 0)) && (c.whole == 0)) (c.burst == 0) (fun hg16 J16 => ?_) ?_)
       ·refine Vl 8 ho1 ?_
        exact Vp 11 (Vk [75, 1] J16)
       refine Vp 12 (Vand 76 80 16 [] ((((spanB c.peak 1) && (spanB c.early 0)) && (c.whole == 0)) && (c.burst == 0)) (c.least == 0) (fun hg17 J17 => ?_) ?_)
       ·refine Vl 13 ho1 ?_
        exact Vp 16 (Vk [80] J17)
       refine Ve (VQ_block_normal (Vn (Vs (Vs ?_))))
       have hE : (((((spanB c.peak 1) && (spanB c.early 0)) && (c.whole == 0)) && (c.burst == 0)) && (c.least == 0)) = (rightC c == 0) := right_cbr (by omega)
       refine VqC 3 (Bo (((((spanB c.peak 1) && (spanB c.early 0)) && (c.whole == 0)) && (c.burst == 0)) && (c.least == 0))) (Bo ((rightC c) == 0)) (by rw [hE]) (Vr (Ve (Vn (Vif (!((rightC c) == 0)) (fun h13 => ?_) (fun h13 => ?_)))))
       ·try simp only [BB] at h13
        refine Vrp (VC_ret (VQ_then_ret (Vr1 (I6 11) ?_)))
        exact ⟨congrArg (Value.int .i64) TAd1aa, hS⟩
       ·try simp only [BB] at h13
        refine VC_skip (Vn (Vrp (VC_ret (Vr1 (I6 0) ?_))))
        exact ⟨congrArg (Value.int .i64) TAd1aa, hS⟩
      ·refine Vrp (VC_ret (VQ_block_ret (VQ_then_ret (Vr1 (I6 12) ?_))))
       exact ⟨congrArg (Value.int .i64) TAd1aa, hS⟩
 ·refine Vrp (Vie c.kind 3 (fun h14 => ?_) (fun h14 => ?_))
  ·refine VC_skip (Vn (Vie c.kind 3 (fun h15 => ?_) (fun h15 => ?_)))
   ·refine Vr (Vp 2 (Vand 19 25 8 [1] ((spanB c.peak 1) && (spanB c.early 0)) (spanB c.whole c.peak) (fun hg18 J18 => ?_) ?_))
    ·refine Vl 3 ho1 (Vl 5 ho1 ?_)
     refine Vc 6 Tryz.call62 ((span_ce c.whole c.peak) w1) ?_
     rintro _ w7 ⟨rfl, hc6⟩
     subst w7
     exact Vp 8 (Vk [25, 1] J18)
    refine Vp 9 (Vand 26 30 13 [1] (((spanB c.peak 1) && (spanB c.early 0)) && (spanB c.whole c.peak)) (spanB c.burst 0) (fun hg19 J19 => ?_) ?_)
    ·refine Vl 10 ho1 ?_
     refine Vc 11 Tryz.call62 ((span_ce c.burst 0) w1) ?_
     rintro _ w8 ⟨rfl, hc7⟩
     subst w8
     exact Vp 13 (Vk [30, 1] J19)
    refine Vp 14 (Vand 31 35 18 [] ((((spanB c.peak 1) && (spanB c.early 0)) && (spanB c.whole c.peak)) && (spanB c.burst 0)) (c.least == 0) (fun hg20 J20 => ?_) ?_)
    ·refine Vl 15 ho1 ?_
     exact Vp 18 (Vk [35] J20)
    refine Ve (VQ_block_normal (Vn (Vs (Vs ?_))))
    have hE : (((((spanB c.peak 1) && (spanB c.early 0)) && (spanB c.whole c.peak)) && (spanB c.burst 0)) && (c.least == 0)) = (rightC c == 0) := right_vbr (by omega)
    refine VqC 3 (Bo (((((spanB c.peak 1) && (spanB c.early 0)) && (spanB c.whole c.peak)) && (spanB c.burst 0)) && (c.least == 0))) (Bo ((rightC c) == 0)) (by rw [hE]) (Vr (Ve (Vn (Vif (!((rightC c) == 0)) (fun h16 => ?_) (fun h16 => ?_)))))
    ·try simp only [BB] at h16
     refine Vrp (VC_ret (VQ_then_ret (Vr1 (I6 11) ?_)))
     exact ⟨congrArg (Value.int .i64) TAd1aa, hS⟩
    ·try simp only [BB] at h16
     refine VC_skip (Vn (Vrp (VC_ret (Vr1 (I6 0) ?_))))
     exact ⟨congrArg (Value.int .i64) TAd1aa, hS⟩
   ·refine Vrp (Vie c.kind 5 (fun h17 => ?_) (fun h17 => ?_))
    ·refine Vr (Vp 2 (Vand 39 43 6 [1] ((spanB c.peak 1) && (spanB c.early 0)) (c.whole == 0) (fun hg21 J21 => ?_) ?_))
     ·refine Vl 3 ho1 ?_
      exact Vp 6 (Vk [43, 1] J21)
     refine Vp 7 (Vand 44 48 11 [1] (((spanB c.peak 1) && (spanB c.early 0)) && (c.whole == 0)) (c.burst == 0) (fun hg22 J22 => ?_) ?_)
     ·refine Vl 8 ho1 ?_
      exact Vp 11 (Vk [48, 1] J22)
     refine Vp 12 (Vand 49 60 23 [] ((((spanB c.peak 1) && (spanB c.early 0)) && (c.whole == 0)) && (c.burst == 0)) ((c.least == 0) || (spanB c.least c.peak)) (fun hg23 J23 => ?_) ?_)
     ·refine Vl 13 ho1 (Vp 16 (Vor 53 59 22 [49] (c.least == 0) (spanB c.least c.peak) (fun hg24 J24 => ?_) ?_))
      ·refine Vl 17 ho1 (Vl 19 ho1 ?_)
       refine Vc 20 Tryz.call62 ((span_ce c.least c.peak) w1) ?_
       rintro _ w9 ⟨rfl, hc8⟩
       subst w9
       exact Vp 22 (Vk [59, 49] J24)
      exact Vp 23 (Vk [60] J23)
     refine Ve (VQ_block_normal (Vn (Vs (Vs ?_))))
     have hE : (((((spanB c.peak 1) && (spanB c.early 0)) && (c.whole == 0)) && (c.burst == 0)) && ((c.least == 0) || (spanB c.least c.peak))) = (rightC c == 0) := right_abr (by omega)
     refine VqC 3 (Bo (((((spanB c.peak 1) && (spanB c.early 0)) && (c.whole == 0)) && (c.burst == 0)) && ((c.least == 0) || (spanB c.least c.peak)))) (Bo ((rightC c) == 0)) (by rw [hE]) (Vr (Ve (Vn (Vif (!((rightC c) == 0)) (fun h18 => ?_) (fun h18 => ?_)))))
     ·try simp only [BB] at h18
      refine Vrp (VC_ret (VQ_then_ret (Vr1 (I6 11) ?_)))
      exact ⟨congrArg (Value.int .i64) TAd1aa, hS⟩
     ·try simp only [BB] at h18
      refine VC_skip (Vn (Vrp (VC_ret (Vr1 (I6 0) ?_))))
      exact ⟨congrArg (Value.int .i64) TAd1aa, hS⟩
    ·refine Vs (Vrp (Vie c.kind 1 (fun h19 => ?_) (fun h19 => ?_)))
     ·refine VC_skip (Vn (Vie c.kind 1 (fun h20 => ?_) (fun h20 => ?_)))
      ·refine Vr (Vp 2 (Vand 66 70 6 [1] ((spanB c.peak 1) && (spanB c.early 0)) (c.whole == 0) (fun hg25 J25 => ?_) ?_))
       ·refine Vl 3 ho1 ?_
        exact Vp 6 (Vk [70, 1] J25)
       refine Vp 7 (Vand 71 75 11 [1] (((spanB c.peak 1) && (spanB c.early 0)) && (c.whole == 0)) (c.burst == 0) (fun hg26 J26 => ?_) ?_)
       ·refine Vl 8 ho1 ?_
        exact Vp 11 (Vk [75, 1] J26)
       refine Vp 12 (Vand 76 80 16 [] ((((spanB c.peak 1) && (spanB c.early 0)) && (c.whole == 0)) && (c.burst == 0)) (c.least == 0) (fun hg27 J27 => ?_) ?_)
       ·refine Vl 13 ho1 ?_
        exact Vp 16 (Vk [80] J27)
       refine Ve (VQ_block_normal (Vn (Vs (Vs ?_))))
       have hE : (((((spanB c.peak 1) && (spanB c.early 0)) && (c.whole == 0)) && (c.burst == 0)) && (c.least == 0)) = (rightC c == 0) := right_cbr (by omega)
       refine VqC 3 (Bo (((((spanB c.peak 1) && (spanB c.early 0)) && (c.whole == 0)) && (c.burst == 0)) && (c.least == 0))) (Bo ((rightC c) == 0)) (by rw [hE]) (Vr (Ve (Vn (Vif (!((rightC c) == 0)) (fun h21 => ?_) (fun h21 => ?_)))))
       ·try simp only [BB] at h21
        refine Vrp (VC_ret (VQ_then_ret (Vr1 (I6 11) ?_)))
        exact ⟨congrArg (Value.int .i64) TAd1aa, hS⟩
       ·try simp only [BB] at h21
        refine VC_skip (Vn (Vrp (VC_ret (Vr1 (I6 0) ?_))))
        exact ⟨congrArg (Value.int .i64) TAd1aa, hS⟩
      ·refine Vrp (VC_ret (VQ_block_ret (VQ_then_ret (Vr1 (I6 12) ?_))))
       exact ⟨congrArg (Value.int .i64) TAd1aa, hS⟩
     ·refine Vrp (Vie c.kind 6 (fun h22 => ?_) (fun h22 => ?_))
      ·refine VC_skip (Vn (Vie c.kind 6 (fun h23 => ?_) (fun h23 => ?_)))
       ·refine Vr (Vp 2 (Vand 66 70 6 [1] ((spanB c.peak 1) && (spanB c.early 0)) (c.whole == 0) (fun hg28 J28 => ?_) ?_))
        ·refine Vl 3 ho1 ?_
         exact Vp 6 (Vk [70, 1] J28)
        refine Vp 7 (Vand 71 75 11 [1] (((spanB c.peak 1) && (spanB c.early 0)) && (c.whole == 0)) (c.burst == 0) (fun hg29 J29 => ?_) ?_)
        ·refine Vl 8 ho1 ?_
         exact Vp 11 (Vk [75, 1] J29)
        refine Vp 12 (Vand 76 80 16 [] ((((spanB c.peak 1) && (spanB c.early 0)) && (c.whole == 0)) && (c.burst == 0)) (c.least == 0) (fun hg30 J30 => ?_) ?_)
        ·refine Vl 13 ho1 ?_
         exact Vp 16 (Vk [80] J30)
        refine Ve (VQ_block_normal (Vn (Vs (Vs ?_))))
        have hE : (((((spanB c.peak 1) && (spanB c.early 0)) && (c.whole == 0)) && (c.burst == 0)) && (c.least == 0)) = (rightC c == 0) := right_cbr (by omega)
        refine VqC 3 (Bo (((((spanB c.peak 1) && (spanB c.early 0)) && (c.whole == 0)) && (c.burst == 0)) && (c.least == 0))) (Bo ((rightC c) == 0)) (by rw [hE]) (Vr (Ve (Vn (Vif (!((rightC c) == 0)) (fun h24 => ?_) (fun h24 => ?_)))))
        ·try simp only [BB] at h24
         refine Vrp (VC_ret (VQ_then_ret (Vr1 (I6 11) ?_)))
         exact ⟨congrArg (Value.int .i64) TAd1aa, hS⟩
        ·try simp only [BB] at h24
         refine VC_skip (Vn (Vrp (VC_ret (Vr1 (I6 0) ?_))))
         exact ⟨congrArg (Value.int .i64) TAd1aa, hS⟩
       ·refine Vrp (VC_ret (VQ_block_ret (VQ_then_ret (Vr1 (I6 12) ?_))))
        exact ⟨congrArg (Value.int .i64) TAd1aa, hS⟩
      ·refine Vr (Ve (Vn (Vie c.kind 7 (fun h25 => ?_) (fun h25 => ?_))))
       ·refine Vr (Vp 2 (Vand 66 70 6 [1] ((spanB c.peak 1) && (spanB c.early 0)) (c.whole == 0) (fun hg31 J31 => ?_) ?_))
        ·refine Vl 3 ho1 ?_
         exact Vp 6 (Vk [70, 1] J31)
        refine Vp 7 (Vand 71 75 11 [1] (((spanB c.peak 1) && (spanB c.early 0)) && (c.whole == 0)) (c.burst == 0) (fun hg32 J32 => ?_) ?_)
        ·refine Vl 8 ho1 ?_
         exact Vp 11 (Vk [75, 1] J32)
        refine Vp 12 (Vand 76 80 16 [] ((((spanB c.peak 1) && (spanB c.early 0)) && (c.whole == 0)) && (c.burst == 0)) (c.least == 0) (fun hg33 J33 => ?_) ?_)
        ·refine Vl 13 ho1 ?_
         exact Vp 16 (Vk [80] J33)
        refine Ve (VQ_block_normal (Vn (Vs (Vs ?_))))
        have hE : (((((spanB c.peak 1) && (spanB c.early 0)) && (c.whole == 0)) && (c.burst == 0)) && (c.least == 0)) = (rightC c == 0) := right_cbr (by omega)
        refine VqC 3 (Bo (((((spanB c.peak 1) && (spanB c.early 0)) && (c.whole == 0)) && (c.burst == 0)) && (c.least == 0))) (Bo ((rightC c) == 0)) (by rw [hE]) (Vr (Ve (Vn (Vif (!((rightC c) == 0)) (fun h26 => ?_) (fun h26 => ?_)))))
        ·try simp only [BB] at h26
         refine Vrp (VC_ret (VQ_then_ret (Vr1 (I6 11) ?_)))
         exact ⟨congrArg (Value.int .i64) TAd1aa, hS⟩
        ·try simp only [BB] at h26
         refine VC_skip (Vn (Vrp (VC_ret (Vr1 (I6 0) ?_))))
         exact ⟨congrArg (Value.int .i64) TAd1aa, hS⟩
       ·refine Vrp (VC_ret (VQ_block_ret (VQ_then_ret (Vr1 (I6 12) ?_))))
        exact ⟨congrArg (Value.int .i64) TAd1aa, hS⟩
  ·refine Vr (Ve (Vn (Vie c.kind 4 (fun h27 => ?_) (fun h27 => ?_))))
   ·refine Vr (Vp 2 (Vand 19 25 8 [1] ((spanB c.peak 1) && (spanB c.early 0)) (spanB c.whole c.peak) (fun hg34 J34 => ?_) ?_))
    ·refine Vl 3 ho1 (Vl 5 ho1 ?_)
     refine Vc 6 Tryz.call62 ((span_ce c.whole c.peak) w1) ?_
     rintro _ w10 ⟨rfl, hc9⟩
     subst w10
     exact Vp 8 (Vk [25, 1] J34)
    refine Vp 9 (Vand 26 30 13 [1] (((spanB c.peak 1) && (spanB c.early 0)) && (spanB c.whole c.peak)) (spanB c.burst 0) (fun hg35 J35 => ?_) ?_)
    ·refine Vl 10 ho1 ?_
     refine Vc 11 Tryz.call62 ((span_ce c.burst 0) w1) ?_
     rintro _ w11 ⟨rfl, hc10⟩
     subst w11
     exact Vp 13 (Vk [30, 1] J35)
    refine Vp 14 (Vand 31 35 18 [] ((((spanB c.peak 1) && (spanB c.early 0)) && (spanB c.whole c.peak)) && (spanB c.burst 0)) (c.least == 0) (fun hg36 J36 => ?_) ?_)
    ·refine Vl 15 ho1 ?_
     exact Vp 18 (Vk [35] J36)
    refine Ve (VQ_block_normal (Vn (Vs (Vs ?_))))
    have hE : (((((spanB c.peak 1) && (spanB c.early 0)) && (spanB c.whole c.peak)) && (spanB c.burst 0)) && (c.least == 0)) = (rightC c == 0) := right_vbr (by omega)
    refine VqC 3 (Bo (((((spanB c.peak 1) && (spanB c.early 0)) && (spanB c.whole c.peak)) && (spanB c.burst 0)) && (c.least == 0))) (Bo ((rightC c) == 0)) (by rw [hE]) (Vr (Ve (Vn (Vif (!((rightC c) == 0)) (fun h28 => ?_) (fun h28 => ?_)))))
    ·try simp only [BB] at h28
     refine Vrp (VC_ret (VQ_then_ret (Vr1 (I6 11) ?_)))
     exact ⟨congrArg (Value.int .i64) TAd1aa, hS⟩
    ·try simp only [BB] at h28
     refine VC_skip (Vn (Vrp (VC_ret (Vr1 (I6 0) ?_))))
     exact ⟨congrArg (Value.int .i64) TAd1aa, hS⟩
   ·refine Vrp (Vie c.kind 5 (fun h29 => ?_) (fun h29 => ?_))
    ·refine Vr (Vp 2 (Vand 39 43 6 [1] ((spanB c.peak 1) && (spanB c.early 0)) (c.whole == 0) (fun hg37 J37 => ?_) ?_))
     ·refine Vl 3 ho1 ?_
      exact Vp 6 (Vk [43, 1] J37)
     refine Vp 7 (Vand 44 48 11 [1] (((spanB c.peak 1) && (spanB c.early 0)) && (c.whole == 0)) (c.burst == 0) (fun hg38 J38 => ?_) ?_)
     ·refine Vl 8 ho1 ?_
      exact Vp 11 (Vk [48, 1] J38)
     refine Vp 12 (Vand 49 60 23 [] ((((spanB c.peak 1) && (spanB c.early 0)) && (c.whole == 0)) && (c.burst == 0)) ((c.least == 0) || (spanB c.least c.peak)) (fun hg39 J39 => ?_) ?_)
     ·refine Vl 13 ho1 (Vp 16 (Vor 53 59 22 [49] (c.least == 0) (spanB c.least c.peak) (fun hg40 J40 => ?_) ?_))
      ·refine Vl 17 ho1 (Vl 19 ho1 ?_)
       refine Vc 20 Tryz.call62 ((span_ce c.least c.peak) w1) ?_
       rintro _ w12 ⟨rfl, hc11⟩
       subst w12
       exact Vp 22 (Vk [59, 49] J40)
      exact Vp 23 (Vk [60] J39)
     refine Ve (VQ_block_normal (Vn (Vs (Vs ?_))))
     have hE : (((((spanB c.peak 1) && (spanB c.early 0)) && (c.whole == 0)) && (c.burst == 0)) && ((c.least == 0) || (spanB c.least c.peak))) = (rightC c == 0) := right_abr (by omega)
     refine VqC 3 (Bo (((((spanB c.peak 1) && (spanB c.early 0)) && (c.whole == 0)) && (c.burst == 0)) && ((c.least == 0) || (spanB c.least c.peak)))) (Bo ((rightC c) == 0)) (by rw [hE]) (Vr (Ve (Vn (Vif (!((rightC c) == 0)) (fun h30 => ?_) (fun h30 => ?_)))))
     ·try simp only [BB] at h30
      refine Vrp (VC_ret (VQ_then_ret (Vr1 (I6 11) ?_)))
      exact ⟨congrArg (Value.int .i64) TAd1aa, hS⟩
     ·try simp only [BB] at h30
      refine VC_skip (Vn (Vrp (VC_ret (Vr1 (I6 0) ?_))))
      exact ⟨congrArg (Value.int .i64) TAd1aa, hS⟩
    ·refine Vs (Vrp (Vie c.kind 1 (fun h31 => ?_) (fun h31 => ?_)))
     ·refine VC_skip (Vn (Vie c.kind 1 (fun h32 => ?_) (fun h32 => ?_)))
      ·refine Vr (Vp 2 (Vand 66 70 6 [1] ((spanB c.peak 1) && (spanB c.early 0)) (c.whole == 0) (fun hg41 J41 => ?_) ?_))
       ·refine Vl 3 ho1 ?_
        exact Vp 6 (Vk [70, 1] J41)
       refine Vp 7 (Vand 71 75 11 [1] (((spanB c.peak 1) && (spanB c.early 0)) && (c.whole == 0)) (c.burst == 0) (fun hg42 J42 => ?_) ?_)
       ·refine Vl 8 ho1 ?_
        exact Vp 11 (Vk [75, 1] J42)
       refine Vp 12 (Vand 76 80 16 [] ((((spanB c.peak 1) && (spanB c.early 0)) && (c.whole == 0)) && (c.burst == 0)) (c.least == 0) (fun hg43 J43 => ?_) ?_)
       ·refine Vl 13 ho1 ?_
        exact Vp 16 (Vk [80] J43)
       refine Ve (VQ_block_normal (Vn (Vs (Vs ?_))))
       have hE : (((((spanB c.peak 1) && (spanB c.early 0)) && (c.whole == 0)) && (c.burst == 0)) && (c.least == 0)) = (rightC c == 0) := right_cbr (by omega)
       refine VqC 3 (Bo (((((spanB c.peak 1) && (spanB c.early 0)) && (c.whole == 0)) && (c.burst == 0)) && (c.least == 0))) (Bo ((rightC c) == 0)) (by rw [hE]) (Vr (Ve (Vn (Vif (!((rightC c) == 0)) (fun h33 => ?_) (fun h33 => ?_)))))
       ·try simp only [BB] at h33
        refine Vrp (VC_ret (VQ_then_ret (Vr1 (I6 11) ?_)))
        exact ⟨congrArg (Value.int .i64) TAd1aa, hS⟩
       ·try simp only [BB] at h33
        refine VC_skip (Vn (Vrp (VC_ret (Vr1 (I6 0) ?_))))
        exact ⟨congrArg (Value.int .i64) TAd1aa, hS⟩
      ·refine Vrp (VC_ret (VQ_block_ret (VQ_then_ret (Vr1 (I6 12) ?_))))
       exact ⟨congrArg (Value.int .i64) TAd1aa, hS⟩
     ·refine Vrp (Vie c.kind 6 (fun h34 => ?_) (fun h34 => ?_))
      ·refine VC_skip (Vn (Vie c.kind 6 (fun h35 => ?_) (fun h35 => ?_)))
       ·refine Vr (Vp 2 (Vand 66 70 6 [1] ((spanB c.peak 1) && (spanB c.early 0)) (c.whole == 0) (fun hg44 J44 => ?_) ?_))
        ·refine Vl 3 ho1 ?_
         exact Vp 6 (Vk [70, 1] J44)
        refine Vp 7 (Vand 71 75 11 [1] (((spanB c.peak 1) && (spanB c.early 0)) && (c.whole == 0)) (c.burst == 0) (fun hg45 J45 => ?_) ?_)
        ·refine Vl 8 ho1 ?_
         exact Vp 11 (Vk [75, 1] J45)
        refine Vp 12 (Vand 76 80 16 [] ((((spanB c.peak 1) && (spanB c.early 0)) && (c.whole == 0)) && (c.burst == 0)) (c.least == 0) (fun hg46 J46 => ?_) ?_)
        ·refine Vl 13 ho1 ?_
         exact Vp 16 (Vk [80] J46)
        refine Ve (VQ_block_normal (Vn (Vs (Vs ?_))))
        have hE : (((((spanB c.peak 1) && (spanB c.early 0)) && (c.whole == 0)) && (c.burst == 0)) && (c.least == 0)) = (rightC c == 0) := right_cbr (by omega)
        refine VqC 3 (Bo (((((spanB c.peak 1) && (spanB c.early 0)) && (c.whole == 0)) && (c.burst == 0)) && (c.least == 0))) (Bo ((rightC c) == 0)) (by rw [hE]) (Vr (Ve (Vn (Vif (!((rightC c) == 0)) (fun h36 => ?_) (fun h36 => ?_)))))
        ·try simp only [BB] at h36
         refine Vrp (VC_ret (VQ_then_ret (Vr1 (I6 11) ?_)))
         exact ⟨congrArg (Value.int .i64) TAd1aa, hS⟩
        ·try simp only [BB] at h36
         refine VC_skip (Vn (Vrp (VC_ret (Vr1 (I6 0) ?_))))
         exact ⟨congrArg (Value.int .i64) TAd1aa, hS⟩
       ·refine Vrp (VC_ret (VQ_block_ret (VQ_then_ret (Vr1 (I6 12) ?_))))
        exact ⟨congrArg (Value.int .i64) TAd1aa, hS⟩
      ·refine Vr (Ve (Vn (Vie c.kind 7 (fun h37 => ?_) (fun h37 => ?_))))
       ·refine Vr (Vp 2 (Vand 66 70 6 [1] ((spanB c.peak 1) && (spanB c.early 0)) (c.whole == 0) (fun hg47 J47 => ?_) ?_))
        ·refine Vl 3 ho1 ?_
         exact Vp 6 (Vk [70, 1] J47)
        refine Vp 7 (Vand 71 75 11 [1] (((spanB c.peak 1) && (spanB c.early 0)) && (c.whole == 0)) (c.burst == 0) (fun hg48 J48 => ?_) ?_)
        ·refine Vl 8 ho1 ?_
         exact Vp 11 (Vk [75, 1] J48)
        refine Vp 12 (Vand 76 80 16 [] ((((spanB c.peak 1) && (spanB c.early 0)) && (c.whole == 0)) && (c.burst == 0)) (c.least == 0) (fun hg49 J49 => ?_) ?_)
        ·refine Vl 13 ho1 ?_
         exact Vp 16 (Vk [80] J49)
        refine Ve (VQ_block_normal (Vn (Vs (Vs ?_))))
        have hE : (((((spanB c.peak 1) && (spanB c.early 0)) && (c.whole == 0)) && (c.burst == 0)) && (c.least == 0)) = (rightC c == 0) := right_cbr (by omega)
        refine VqC 3 (Bo (((((spanB c.peak 1) && (spanB c.early 0)) && (c.whole == 0)) && (c.burst == 0)) && (c.least == 0))) (Bo ((rightC c) == 0)) (by rw [hE]) (Vr (Ve (Vn (Vif (!((rightC c) == 0)) (fun h38 => ?_) (fun h38 => ?_)))))
        ·try simp only [BB] at h38
         refine Vrp (VC_ret (VQ_then_ret (Vr1 (I6 11) ?_)))
         exact ⟨congrArg (Value.int .i64) TAd1aa, hS⟩
        ·try simp only [BB] at h38
         refine VC_skip (Vn (Vrp (VC_ret (Vr1 (I6 0) ?_))))
         exact ⟨congrArg (Value.int .i64) TAd1aa, hS⟩
       ·refine Vrp (VC_ret (VQ_block_ret (VQ_then_ret (Vr1 (I6 12) ?_))))
        exact ⟨congrArg (Value.int .i64) TAd1aa, hS⟩

theorem always_any (c : Con) (w : World) :
  CV Tryz.prog 243 #[.agg #[I6 c.kind, I6 c.peak, I6 c.early, I6 c.whole, I6 c.burst, I6 c.least]] w (fun x w1 => x = Bo (alwaysC c) ∧ Step No w w1) := by
 have hS : Step No w w := Step.refl _ _
 refine VCe Tryz.func243 (Vs (Vr ?_))
 refine Vx 0 23 #[I6 c.kind, I6 c.peak, I6 c.early, I6 c.whole, I6 c.burst, I6 c.least] ?_
 intro b1 w1 hn1
 replace hS := Step.trans hS (hn1.step No)
 have ho1 := hn1.own
 refine Ve (Vn (Vs (Vr (Vl 1 ho1 (VL_pure 4 [1, 6] [(1, Pt b1 0), (6, Bo (c.kind == 7))] (by kernel_rfl) rfl (VL_beq c.kind 7 (fun bV => [(1, Pt b1 0), (6, Bo bV)]) rfl (fun hg1 => ?_) (fun hg1 => ?_)))))))
 ·refine Vl 4 ho1 ?_
  refine Vc 5 Tryz.call18 (cright_any c _) ?_
  rintro _ w2 ⟨rfl, hc1⟩
  replace hS := Step.trans hS hc1
  refine Ve (Vn (VC_ret (Vr1 (Bo ((rightC c) == 0)) ?_)))
  exact ⟨congrArg Value.bool TAd1ae, hS⟩
 ·refine Ve (Vn (VC_ret (Vr1 (Bo false) ?_)))
  exact ⟨congrArg Value.bool TAd1ae, hS⟩

theorem num_eq {c : Con} (h1 : 0 ≤ perC c.whole * 4096 ∧ perC c.whole * 4096 ≤ 4294967296) (h2 : 0 ≤ perC c.peak * c.burst ∧ perC c.peak * c.burst ≤ 1152921504606846976) : IntKind.wrap .i64 (IntKind.wrap .i64 (perC c.whole * 4096) + IntKind.wrap .i64 (perC c.peak * c.burst)) = perC c.whole * 4096 + perC c.peak * c.burst := by
  rw [wrap_i64 (perC c.whole * 4096) (by omega) (by omega), wrap_i64 (perC c.peak * c.burst) (by omega) (by omega), wrap_i64 _ (by omega) (by omega)]
theorem bur_eq {c : Con} (h : 0 ≤ c.burst ∧ c.burst ≤ 1099511627776) : IntKind.wrap .i64 (c.burst + 4096) = c.burst + 4096 := wrap_i64 _ (by omega) (by omega)
theorem up_ce {c : Con} (h1 : 0 ≤ perC c.whole * 4096 ∧ perC c.whole * 4096 ≤ 4294967296) (h2 : 0 ≤ perC c.peak * c.burst ∧ perC c.peak * c.burst ≤ 1152921504606846976) (h3 : 0 ≤ c.burst ∧ c.burst ≤ 1099511627776) : CE Tryz.prog 86 #[.int .i64 (IntKind.wrap .i64 (IntKind.wrap .i64 (perC c.whole * 4096) + IntKind.wrap .i64 (perC c.peak * c.burst))), .int .i64 (IntKind.wrap .i64 (c.burst + 4096))] (.int .i64 (upC (perC c.whole * 4096 + perC c.peak * c.burst) (c.burst + 4096))) := by
  intro w
  rw [num_eq h1 h2, bur_eq h3]
  exact up_w _ _ (by omega) (by omega) (by omega) (by omega) w
theorem need_any (c : Con) (w : World) :
  CV Tryz.prog 39 #[.agg #[I6 c.kind, I6 c.peak, I6 c.early, I6 c.whole, I6 c.burst, I6 c.least]] w (fun x w1 => x = I6 (needC c) ∧ Step No w w1) := by
 have hS : Step No w w := Step.refl _ _
 refine VCe Tryz.func39 (Vs (Vr ?_))
 refine Vx 0 23 #[I6 c.kind, I6 c.peak, I6 c.early, I6 c.whole, I6 c.burst, I6 c.least] ?_
 intro b1 w1 hn1
 replace hS := Step.trans hS (hn1.step No)
 have ho1 := hn1.own
 refine Ve (Vn (Vs (Vs (Vr (Vl 0 ho1 ?_)))))
 refine Vc 1 Tryz.call18 (cright_any c _) ?_
 rintro _ w2 ⟨rfl, hc1⟩
 replace hS := Step.trans hS hc1
 replace ho1 := ho1.no hc1
 refine Ve (Vn (Viu (rightC c) 0 (fun h1 => ?_) (fun h1 => ?_)))
 ·refine Vrp (VC_ret (VQ_then_ret (Vr1 (I6 0) ?_)))
  exact ⟨congrArg (Value.int .i64) TAd1ab, hS⟩
 ·refine VC_skip (Vn (Vrp (Vs (Vs (Vr (Vl 1 ho1 (Ve (Vn (VC_block (Vrp (Vie c.kind 1 (fun h2 => ?_) (fun h2 => ?_))))))))))))
  ·refine Vr (Vl 1 ho1 ?_)
   refine Vc 2 Tryz.call85 ((per_ce c.peak) w2) ?_
   rintro _ w3 ⟨rfl, hc2⟩
   subst w3
   refine Ve (VQ_block_normal (Vn (Vrp (VC_ret (Vr1 (I6 (perC c.peak)) ?_)))))
   exact ⟨congrArg (Value.int .i64) TAd1ab, hS⟩
  ·refine Vrp (Vie c.kind 5 (fun h3 => ?_) (fun h3 => ?_))
   ·refine Vr (Vl 1 ho1 ?_)
    refine Vc 2 Tryz.call85 ((per_ce c.least) w2) ?_
    rintro _ w4 ⟨rfl, hc3⟩
    subst w4
    refine Ve (VQ_block_normal (Vn (Vrp (VC_ret (Vr1 (I6 (perC c.least)) ?_)))))
    exact ⟨congrArg (Value.int .i64) TAd1ab, hS⟩
   ·refine Vs (Vrp (Vie c.kind 2 (fun h4 => ?_) (fun h4 => ?_)))
    ·refine VC_skip (Vn (Vie c.kind 2 (fun h5 => ?_) (fun h5 => ?_)))
     ·have hr0 : rightC c = 0 := by assumption
      have hk : c.kind = 2 ∨ c.kind = 3 ∨ c.kind = 4 := by omega
      obtain ⟨hn1, hn2, hn3⟩ := vbr_num hr0 hk
      refine Vd 14 [(1, I6 c.whole), (2, I6 (perC c.whole)), (5, I6 c.peak), (6, I6 (perC c.peak)), (8, I6 c.burst), (12, I6 c.burst)] [1, 2, 5, 6, 8, 12] ?_ ?_
      ·intro w5 hs1
       replace ho1 := ho1.no hs1
       exact ⟨Dl ho1, Dc Tryz.call85 ((per_ce c.whole).no _), Dl ho1, Dc Tryz.call85 ((per_ce c.peak).no _), Dl ho1, Dl ho1, trivial⟩
      intro w5 hs1
      replace hS := Step.trans hS hs1
      refine VL_keep [33, 36] [(33, I6 (IntKind.wrap .i64 ((IntKind.wrap .i64 ((perC c.whole) * 4096)) + (IntKind.wrap .i64 ((perC c.peak) * c.burst))))), (36, I6 (IntKind.wrap .i64 (c.burst + 4096)))] (by kernel_rfl) ?_
      refine Vc 14 Tryz.call86 ((up_ce hn1 hn2 hn3) w5) ?_
      rintro _ w6 ⟨rfl, hc4⟩
      subst w6
      refine Ve (VQ_block_normal (Vn (Vrp (VC_ret (Vr1 (I6 (upC (perC c.whole * 4096 + perC c.peak * c.burst) (c.burst + 4096))) ?_)))))
      exact ⟨congrArg (Value.int .i64) TAd1ab, hS⟩
     ·refine VC_skip (VQ_block_normal (Vn (Vrp (VC_ret (Vr1 (I6 0) ?_)))))
      exact ⟨congrArg (Value.int .i64) TAd1ab, hS⟩
    ·refine Vrp (Vie c.kind 3 (fun h6 => ?_) (fun h6 => ?_))
     ·refine VC_skip (Vn (Vie c.kind 3 (fun h7 => ?_) (fun h7 => ?_)))
      ·have hr0 : rightC c = 0 := by assumption
       have hk : c.kind = 2 ∨ c.kind = 3 ∨ c.kind = 4 := by omega
       obtain ⟨hn1, hn2, hn3⟩ := vbr_num hr0 hk
       refine Vd 14 [(1, I6 c.whole), (2, I6 (perC c.whole)), (5, I6 c.peak), (6, I6 (perC c.peak)), (8, I6 c.burst), (12, I6 c.burst)] [1, 2, 5, 6, 8, 12] ?_ ?_
       ·intro w7 hs2
        replace ho1 := ho1.no hs2
        exact ⟨Dl ho1, Dc Tryz.call85 ((per_ce c.whole).no _), Dl ho1, Dc Tryz.call85 ((per_ce c.peak).no _), Dl ho1, Dl ho1, trivial⟩
       intro w7 hs2
       replace hS := Step.trans hS hs2
       refine VL_keep [33, 36] [(33, I6 (IntKind.wrap .i64 ((IntKind.wrap .i64 ((perC c.whole) * 4096)) + (IntKind.wrap .i64 ((perC c.peak) * c.burst))))), (36, I6 (IntKind.wrap .i64 (c.burst + 4096)))] (by kernel_rfl) ?_
       refine Vc 14 Tryz.call86 ((up_ce hn1 hn2 hn3) w7) ?_
       rintro _ w8 ⟨rfl, hc5⟩
       subst w8
       refine Ve (VQ_block_normal (Vn (Vrp (VC_ret (Vr1 (I6 (upC (perC c.whole * 4096 + perC c.peak * c.burst) (c.burst + 4096))) ?_)))))
       exact ⟨congrArg (Value.int .i64) TAd1ab, hS⟩
      ·refine VC_skip (VQ_block_normal (Vn (Vrp (VC_ret (Vr1 (I6 0) ?_)))))
       exact ⟨congrArg (Value.int .i64) TAd1ab, hS⟩
     ·refine Vr (Ve (Vn (Vie c.kind 4 (fun h8 => ?_) (fun h8 => ?_))))
      ·have hr0 : rightC c = 0 := by assumption
       have hk : c.kind = 2 ∨ c.kind = 3 ∨ c.kind = 4 := by omega
       obtain ⟨hn1, hn2, hn3⟩ := vbr_num hr0 hk
       refine Vd 14 [(1, I6 c.whole), (2, I6 (perC c.whole)), (5, I6 c.peak), (6, I6 (perC c.peak)), (8, I6 c.burst), (12, I6 c.burst)] [1, 2, 5, 6, 8, 12] ?_ ?_
       ·intro w9 hs3
        replace ho1 := ho1.no hs3
        exact ⟨Dl ho1, Dc Tryz.call85 ((per_ce c.whole).no _), Dl ho1, Dc Tryz.call85 ((per_ce c.peak).no _), Dl ho1, Dl ho1, trivial⟩
       intro w9 hs3
       replace hS := Step.trans hS hs3
       refine VL_keep [33, 36] [(33, I6 (IntKind.wrap .i64 ((IntKind.wrap .i64 ((perC c.whole) * 4096)) + (IntKind.wrap .i64 ((perC c.peak) * c.burst))))), (36, I6 (IntKind.wrap .i64 (c.burst + 4096)))] (by kernel_rfl) ?_
       refine Vc 14 Tryz.call86 ((up_ce hn1 hn2 hn3) w9) ?_
       rintro _ w10 ⟨rfl, hc6⟩
       subst w10
       refine Ve (VQ_block_normal (Vn (Vrp (VC_ret (Vr1 (I6 (upC (perC c.whole * 4096 + perC c.peak * c.burst) (c.burst + 4096))) ?_)))))
       exact ⟨congrArg (Value.int .i64) TAd1ab, hS⟩
      ·refine VC_skip (VQ_block_normal (Vn (Vrp (VC_ret (Vr1 (I6 0) ?_)))))
       exact ⟨congrArg (Value.int .i64) TAd1ab, hS⟩

theorem bnew_any (s e : Int) (w : World) :
  CV Tryz.prog 245 #[I6 s, I6 e] w (fun x w1 => ∃ bk, x = Pt bk 0 ∧ bk = w.heap.size ∧ w1.heap.size = w.heap.size + 1 ∧ Own w1 bk #[I6 (bkNew s e).step, I6 (bkNew s e).early, I6 (bkNew s e).next, Bo (bkNew s e).any] 443 ∧ Step No w w1) := by
 have hS : Step No w w := Step.refl _ _
 refine VCe Tryz.func245 (Vrp (Vs (Vr (Vp 1 ?_))))
 refine Vc 1 Tryz.call294 ((within_ce s 1 1152921504606846976) w) ?_
 rintro _ w1 ⟨rfl, hc1⟩
 subst w1
 refine Vp 3 ?_
 refine Vc 3 Tryz.call294 ((within_ce e 0 1152921504606846976) w) ?_
 rintro _ w2 ⟨rfl, hc2⟩
 subst w2
 refine Vp 5 ?_
 refine Vx 5 443 #[I6 (imax 1 (imin s 1152921504606846976)), I6 (imax 0 (imin e 1152921504606846976)), I6 0, Bo false] ?_
 intro b1 w3 hn1
 replace hS := Step.trans hS (hn1.step No)
 have ho1 := hn1.own
 have hzhn1 := hn1.size
 have hqhn1 := hn1.eqb
 refine Ve (Vn (VC_ret (Vr1 (Pt b1 0) ?_)))
 exact ⟨b1, rfl, hqhn1, hzhn1, ho1, hS⟩

theorem bfits_any (bk : Nat) (b : Bk) (t : Int) (w : World) (hb : BkI b) (ho : Own w bk #[I6 b.step, I6 b.early, I6 b.next, Bo b.any] 443) :
  CV Tryz.prog 351 #[Pt bk 0, I6 t] w (fun x w1 => x = Bo (fitsB b t) ∧ Step No w w1) := by
 have hS : Step No w w := Step.refl _ _
 refine VCe Tryz.func351 (Vrp (Vs ?_))
 have hs1 := drew_step w
 have hs1z : w.heap.size = w.drew.heap.size := rfl
 refine Tx 20 (fun k => w.heap.size ≤ k) [10] [0, 1, 2, 3, 4, 5, 6, 7, 8, 9, 11, 12, 13, 14, 15, 16, 17, 18, 19, 10] ?_
 have hzl1 := ho.lt
 generalize w.drew = w1 at hs1 hs1z ⊢
 replace hS := Step.trans hS hs1
 replace ho := ho.no hs1
 refine Tp 6 (Tl (fun w2 hr1 => ho.step hr1 (by (try simp only); omega)) (Tp 2 ?_))
 rcases Bool.eq_false_or_eq_true b.any with hg1 | hg1
 ·refine Tq [(8, Bo (!b.any)), (7, Bo (!b.any)), (6, Bo b.any)] [(8, Bo false), (7, Bo false), (6, Bo true)] (by simp only [hg1, Bool.not_true, Bool.not_false]) ?_
  try simp only [bne_iff_ne, beq_iff_eq, decide_eq_true_eq, decide_eq_false_iff_not, bne_eq_false_iff_eq, beq_eq_false_iff_ne, ne_eq] at hg1
  refine Tp 4 (Tl (fun w3 hr2 => ho.step hr2 (by (try simp only); omega)) (Tp 3 (Tl (fun w4 hr3 => ho.step hr3 (by (try simp only); omega)) (Tp 1 (Th ?_)))))
  intro w5 hs2
  replace hS := Step.trans hS hs2
  refine Tc Tryz.call294 ((within_ce t 0 1152921504606846976).no _) ?_ ?_
  ·rintro _ w6 ⟨rfl, hc1⟩
   exact Step.mono hc1 (by intro i hi; first | exact hi.elim | exact .inl hi | ((try simp only at hi ⊢); omega))
  rintro _ w6 ⟨rfl, hc1⟩
  replace hS := Step.trans hS hc1
  refine VT_end ?_
  intro w7 hs3
  replace hS := Step.trans hS hs3
  refine Ve (Vn (VC_ret (Vr1 (Bo (decide ((imax 0 (imin t 1152921504606846976)) ≥ (IntKind.wrap .i64 (b.next - b.early))))) ?_)))
  exact ⟨congrArg Value.bool TAd1ad, hS⟩
 ·refine Tq [(8, Bo (!b.any)), (7, Bo (!b.any)), (6, Bo b.any)] [(8, Bo true), (7, Bo true), (6, Bo false)] (by simp only [hg1, Bool.not_true, Bool.not_false]) ?_
  try simp only [bne_iff_ne, beq_iff_eq, decide_eq_true_eq, decide_eq_false_iff_not, bne_eq_false_iff_eq, beq_eq_false_iff_ne, ne_eq] at hg1
  refine Tp 11 (VT_end ?_)
  intro w8 hs4
  replace hS := Step.trans hS hs4
  refine Ve (Vn (VC_ret (Vr1 (Bo true) ?_)))
  exact ⟨congrArg Value.bool TAd1ad, hS⟩

theorem btake_any (bk : Nat) (b : Bk) (t : Int) (w : World) (hb : BkI b) (ho : Own w bk #[I6 b.step, I6 b.early, I6 b.next, Bo b.any] 443) :
  CV Tryz.prog 352 #[Pt bk 0, I6 t] w (fun x w1 => x = Bo (fitsB b t) ∧ Own w1 bk #[I6 (takeB b t).step, I6 (takeB b t).early, I6 (takeB b t).next, Bo (takeB b t).any] 443 ∧ Step (Just bk) w w1) := by
 have hS : Step (Just bk) w w := Step.refl _ _
 refine VCe Tryz.func352 (Vrp (Vs (Vs (Vr (Vp 2 ?_)))))
 refine Vc 2 Tryz.call351 (bfits_any bk b t _ hb ho) ?_
 rintro _ w1 ⟨rfl, hc1⟩
 replace hS := Step.trans hS (Step.weak hc1)
 replace ho := ho.no hc1
 refine Ve (Vn (Vif (!(fitsB b t)) (fun h1 => ?_) (fun h1 => ?_)))
 ·try simp only [BB] at h1
  refine Vrp (VC_ret (VQ_then_ret (Vr1 (Bo false) ?_)))
  exact ⟨congrArg Value.bool h1.symm, Own.cast ho (by unfold takeB; rw [if_neg (by rw [h1]; decide)]), hS⟩
 ·try simp only [BB] at h1
  refine VC_skip (Vn (Vs (Vd 13 [(4, I6 b.next), (6, I6 (imax 0 (imin t 1152921504606846976))), (11, I6 b.step)] [4, 6, 11] ?_ ?_)))
  ·intro w2 hs1
   replace ho := ho.no hs1
   exact ⟨Dl ho, Dc Tryz.call294 ((within_ce t 0 1152921504606846976).no _), Dl ho, trivial⟩
  intro w2 hs1
  replace hS := Step.trans hS (Step.weak hs1)
  replace ho := ho.no hs1
  refine Vst 15 (o := 2) [I6 (IntKind.wrap .i64 ((imax b.next (imax 0 (imin t 1152921504606846976))) + b.step))] ho #[I6 b.step, I6 b.early, I6 (IntKind.wrap .i64 ((imax b.next (imax 0 (imin t 1152921504606846976))) + b.step)), Bo b.any] ?_
  intro w3 hw1
  replace hS := Step.trans hS (Step.mono hw1.step TAd1ac)
  have ho1 := hw1.own
  refine Ve (Vn (Vs (Vr (Vst 3 (o := 3) [Bo true] ho1 #[I6 b.step, I6 b.early, I6 (IntKind.wrap .i64 ((imax b.next (imax 0 (imin t 1152921504606846976))) + b.step)), Bo true] ?_))))
  intro w4 hw2
  replace hS := Step.trans hS (Step.mono hw2.step TAd1ac)
  have ho2 := hw2.own
  refine Ve (Vn (Vrp (VC_ret (Vr1 (Bo true) ?_))))
  exact ⟨congrArg Value.bool h1.symm, Own.cast ho2 (by have h9 := hb.max_le h1; have h8 := hb.step; unfold takeB; rw [if_pos h1]; simp only; rw [show IntKind.wrap .i64 (imax b.next (imax 0 (imin t 1152921504606846976)) + b.step) = imax b.next (clT t) + b.step from wrap_i64 _ (by unfold clT at h9; omega) (by unfold clT at h9; omega)]), hS⟩

end Go.Proofs.YtcablikikkmfjaaGreat
end

section
/- Layer 20: what lies in memory: ledgers, policers. -/
set_option linter.unusedVariables false
set_option linter.unusedSimpArgs false
namespace Go.Proofs.YtcablikikkmfjaaGreat
open Go.Vc Go.RowKit

abbrev ei (n : Int) : Value := .int .i64 n
abbrev ui (n : Int) : Value := .int .i64 n
theorem keyTi : KeyT Tryz.prog 3 ei := keyT_int (by kernel_rfl)

section
variable {w w' : World} {F : Nat → Prop}
/-! ### Ledgers -/
structure Ld (w : World) (lg lm : Nat) (room used : Int) (N : List (Int × Int)) : Prop where
  own : Own w lg #[.int .i64 room, .int .i64 used, .map (some lm)] 330
  map : MapL w lm ei ui N
theorem Ld.ne {lg lm : Nat} {room used : Int} {N : List (Int × Int)} (h : Ld w lg lm room used N) : lg ≠ lm := by
  rintro rfl
  obtain ⟨⟨es, ck, h1, _⟩, _⟩ := h.map
  have := h.own
  unfold Own at this
  rw [h1] at this; cases this
theorem Ld.step {lg lm : Nat} {room used : Int} {N : List (Int × Int)} (h : Ld w lg lm room used N) (hs : Step F w w') (h1 : ¬ F lg) (h2 : ¬ F lm) : Ld w' lg lm room used N := ⟨h.own.step hs h1, h.map.step hs h2⟩
theorem Ld.no {lg lm : Nat} {room used : Int} {N : List (Int × Int)} (h : Ld w lg lm room used N) (hs : Step No w w') : Ld w' lg lm room used N := h.step hs id id
theorem Ld.lt {lg lm : Nat} {room used : Int} {N : List (Int × Int)} (h : Ld w lg lm room used N) : lg < w.heap.size ∧ lm < w.heap.size := ⟨h.own.lt, h.map.lt⟩
end

/-! ### Policers -/
abbrev Rb := Rl × Nat
def rlc (p : Rb) : List Value := [.int .i64 p.1.step, .int .i64 p.1.early, .bool p.1.zero, .bool p.1.tag, .iface 386 (.pointer (some ⟨p.2, 0, none⟩))]
theorem rlc_len (p : Rb) : (rlc p).length = 5 := rfl
theorem rlc_one (p : Rb) : ∀ u ∈ rlc p, oneC u = true := by
  intro u hu
  simp only [rlc, List.mem_cons, List.not_mem_nil, or_false] at hu
  rcases hu with rfl | rfl | rfl | rfl | rfl <;> rfl
def BksW (w : World) (l : List Rb) : Prop := ∀ p ∈ l, Own w p.2 #[.int .i64 p.1.b.step, .int .i64 p.1.b.early, .int .i64 p.1.b.next, .bool p.1.b.any] 443
def PT (w : World) (k : Nat) : Prop := TyB w 381 k ∨ TyB w 391 k ∨ TyB w 443 k
section
variable {w w' : World} {F : Nat → Prop} {l : List Rb}
theorem BksW.step (h : BksW w l) (hs : Step F w w') (hF : ∀ p ∈ l, ¬ F p.2) : BksW w' l := fun p hp => (h p hp).step hs (hF p hp)
theorem BksW.no (h : BksW w l) (hs : Step No w w') : BksW w' l := h.step hs fun _ _ => id
theorem BksW.lt (h : BksW w l) : ∀ p ∈ l, p.2 < w.heap.size := fun p hp => (h p hp).lt
theorem PT.lt {k : Nat} (h : PT w k) : k < w.heap.size := by rcases h with h | h | h <;> exact h.lt
theorem PT.step {k : Nat} (h : PT w k) (hs : Step F w w') (hF : ¬ F k) : PT w' k := by
  rcases h with h | h | h
  · exact .inl (h.step hs hF)
  · exact .inr (.inl (h.step hs hF))
  · exact .inr (.inr (h.step hs hF))
def polArr (a : Bool) (rb n c : Nat) (c0 c1 c2 c3 : Int) : Array Value := #[.bool a, .slice (some ⟨rb, 0, none⟩) n c, .int .i64 c0, .int .i64 c1, .int .i64 c2, .int .i64 c3]
/-- A policer at an address: its rules and their buckets; all that it has lies in Y. -/
structure PlX (w : World) (pp : Nat) (Y : Nat → Prop) (a : Bool) (l : List Rb) (rb c : Nat) (c0 c1 c2 c3 : Int) : Prop where
  own : Own w pp (polArr a rb l.length c c0 c1 c2 c3) 381
  row : RowE w rb 391 (flat rlc l)
  bks : BksW w l
  nodup : (l.map (·.2)).Nodup
  inP : Y pp
  inR : Y rb
  inB : ∀ p ∈ l, Y p.2
  ty : ∀ k, Y k → PT w k
  pos : 0 < l.length
def Pl (w : World) (pp : Nat) (Y : Nat → Prop) (a : Bool) (rs : List Rl) : Prop := RlsI rs ∧ ∃ l rb c c0 c1 c2 c3, rs = l.map (·.1) ∧ PlX w pp Y a l rb c c0 c1 c2 c3
theorem PlX.step {pp : Nat} {Y : Nat → Prop} {a : Bool} {rb c : Nat} {c0 c1 c2 c3 : Int} (h : PlX w pp Y a l rb c c0 c1 c2 c3) (hs : Step F w w') (hF : ∀ k, Y k → ¬ F k) : PlX w' pp Y a l rb c c0 c1 c2 c3 :=
  ⟨h.own.step hs (hF _ h.inP), h.row.step hs (hF _ h.inR), h.bks.step hs fun p hp => hF _ (h.inB p hp), h.nodup, h.inP, h.inR, h.inB, fun k hk => (h.ty k hk).step hs (hF k hk), h.pos⟩
theorem Pl.step {pp : Nat} {Y : Nat → Prop} {a : Bool} {rs : List Rl} (h : Pl w pp Y a rs) (hs : Step F w w') (hF : ∀ k, Y k → ¬ F k) : Pl w' pp Y a rs := by
  obtain ⟨h0, l, rb, c, c0, c1, c2, c3, h1, h2⟩ := h
  exact ⟨h0, l, rb, c, c0, c1, c2, c3, h1, h2.step hs hF⟩
theorem Pl.no {pp : Nat} {Y : Nat → Prop} {a : Bool} {rs : List Rl} (h : Pl w pp Y a rs) (hs : Step No w w') : Pl w' pp Y a rs := h.step hs fun _ _ => id
theorem Pl.inP {pp : Nat} {Y : Nat → Prop} {a : Bool} {rs : List Rl} (h : Pl w pp Y a rs) : Y pp := by obtain ⟨h0, l, rb, c, c0, c1, c2, c3, h1, h2⟩ := h; exact h2.inP
theorem Pl.ty {pp : Nat} {Y : Nat → Prop} {a : Bool} {rs : List Rl} (h : Pl w pp Y a rs) {k : Nat} (hk : Y k) : PT w k := by obtain ⟨h0, l, rb, c, c0, c1, c2, c3, h1, h2⟩ := h; exact h2.ty k hk
theorem Pl.lt {pp : Nat} {Y : Nat → Prop} {a : Bool} {rs : List Rl} (h : Pl w pp Y a rs) : pp < w.heap.size := (h.ty h.inP).lt
theorem PlX.ne_row {pp : Nat} {Y : Nat → Prop} {a : Bool} {rb c : Nat} {c0 c1 c2 c3 : Int} (h : PlX w pp Y a l rb c c0 c1 c2 c3) : rb ≠ pp := by
  rintro rfl; exact absurd (h.row.ty.two h.own.tyB) (by decide)
theorem PlX.ne_b {pp : Nat} {Y : Nat → Prop} {a : Bool} {rb c : Nat} {c0 c1 c2 c3 : Int} (h : PlX w pp Y a l rb c c0 c1 c2 c3) (p : Rb) (hp : p ∈ l) : p.2 ≠ pp ∧ p.2 ≠ rb := by
  have h1 := (h.bks p hp).tyB
  exact ⟨fun e => by rw [e] at h1; exact absurd (h1.two h.own.tyB) (by decide), fun e => by rw [e] at h1; exact absurd (h1.two h.row.ty) (by decide)⟩
end

/-! ### What is asked of a policer -/
def askL (clp : Int) (l : List Rb) : List Rb := l.filter fun p => askB clp p.1
def askV (clp : Int) (l : List Rb) : List (Array Value) := (askL clp l).map fun p => #[.agg (rlc p).toArray]
def cntA (clp : Int) (l : List Rb) (j : Nat) : Nat := (askL clp (l.take j)).length
theorem take_one {α : Type} {l : List α} {j : Nat} {y : α} (hy : l[j]? = some y) : l.take (j + 1) = l.take j ++ [y] := by rw [List.take_add_one, hy]; rfl
theorem cntA_yes {clp : Int} {l : List Rb} {j : Nat} {y : Rb} (hy : l[j]? = some y) (ha : askB clp y.1 = true) : cntA clp l (j + 1) = cntA clp l j + 1 := by
  unfold cntA askL; rw [take_one hy, List.filter_append, List.length_append]; simp [ha]
theorem cntA_no {clp : Int} {l : List Rb} {j : Nat} {y : Rb} (hy : l[j]? = some y) (ha : askB clp y.1 = false) : cntA clp l (j + 1) = cntA clp l j := by
  unfold cntA askL; rw [take_one hy, List.filter_append, List.length_append]; simp [ha]
theorem cntA_len (clp : Int) (l : List Rb) : cntA clp l l.length = (askV clp l).length := by unfold cntA askV; rw [List.take_length, List.length_map]
theorem cntA_le (clp : Int) (l : List Rb) (j : Nat) : cntA clp l j ≤ (askV clp l).length := by
  unfold cntA askV askL; rw [List.length_map]
  exact (List.Sublist.filter _ (List.take_sublist j l)).length_le
theorem askV_get {clp : Int} {l : List Rb} {j : Nat} {y : Rb} (hy : l[j]? = some y) (ha : askB clp y.1 = true) : (askV clp l)[cntA clp l j]? = some #[.agg #[.int .i64 y.1.step, .int .i64 y.1.early, .bool y.1.zero, .bool y.1.tag, .iface 386 (.pointer (some ⟨y.2, 0, none⟩))]] := by
  have h : l = l.take j ++ y :: l.drop (j + 1) := by
    obtain ⟨hlt, hg⟩ := List.getElem?_eq_some_iff.1 hy
    have h1 := List.drop_eq_getElem_cons hlt
    rw [hg] at h1
    rw [← h1, List.take_append_drop]
  unfold askV cntA
  rw [List.getElem?_map]
  have h2 : (askL clp l)[(askL clp (l.take j)).length]? = some y := by
    conv => lhs; arg 1; rw [h]
    unfold askL
    rw [List.filter_append, List.filter_cons_of_pos (p := fun p : Rb => askB clp p.1) ha, List.getElem?_append_right (Nat.le_refl _), Nat.sub_self]
    rfl
  rw [h2]; rfl
theorem askV_mem {clp : Int} {l : List Rb} {k : Nat} {args : Array Value} (h : (askV clp l)[k]? = some args) : ∃ y, (askL clp l)[k]? = some y ∧ y ∈ l ∧ args = #[.agg #[.int .i64 y.1.step, .int .i64 y.1.early, .bool y.1.zero, .bool y.1.tag, .iface 386 (.pointer (some ⟨y.2, 0, none⟩))]] := by
  unfold askV at h
  rw [List.getElem?_map] at h
  obtain ⟨y, hy, rfl⟩ := Option.map_eq_some_iff.1 h
  exact ⟨y, hy, (List.mem_filter.1 (List.mem_of_getElem? hy)).1, rfl⟩
theorem askV_sz (clp : Int) (l : List Rb) : ∀ a ∈ askV clp l, a.size = 1 := by
  intro a ha
  obtain ⟨p, _, rfl⟩ := List.mem_map.1 ha
  rfl
theorem askV_lenL (clp : Int) (l : List Rb) : (askV clp l).length = (askL clp l).length := by unfold askV; rw [List.length_map]
/-- The verdict so far. -/
def verdK (t clp : Int) (l : List Rb) (k : Nat) : Int := ((askL clp l).take k).foldl (fun v p => vS t v p.1) 1
theorem verdK_zero (t clp : Int) (l : List Rb) : verdK t clp l 0 = 1 := rfl
theorem verdK_succ {t clp : Int} {l : List Rb} {k : Nat} {y : Rb} (hy : (askL clp l)[k]? = some y) : verdK t clp l (k + 1) = vS t (verdK t clp l k) y.1 := by
  unfold verdK; rw [take_one hy, List.foldl_append]; rfl
theorem foldl_map' (t : Int) : ∀ (l : List Rb) (v : Int), (l.map (·.1)).foldl (vS t) v = l.foldl (fun v p => vS t v p.1) v
  | [], v => rfl
  | p :: l, v => by simp only [List.map_cons, List.foldl_cons]; exact foldl_map' t l _
theorem filter_map' (clp : Int) : ∀ (l : List Rb), (l.map (·.1)).filter (askB clp) = (askL clp l).map (·.1)
  | [] => rfl
  | p :: l => by
    unfold askL
    simp only [List.map_cons, List.filter_cons]
    have := filter_map' clp l
    unfold askL at this
    split <;> simp [this]
theorem verdK_all (t clp : Int) (l : List Rb) : verdK t clp l (askV clp l).length = verdR t clp (l.map (·.1)) := by
  unfold verdK verdR
  rw [askV_lenL, List.take_length, filter_map', foldl_map']
theorem verdK_three {t clp : Int} {l : List Rb} {k : Nat} (h : verdK t clp l k = 3) : verdR t clp (l.map (·.1)) = 3 := by
  rw [← verdK_all, askV_lenL]
  unfold verdK at h ⊢
  rw [List.take_length]
  rw [← List.take_append_drop k (askL clp l), List.foldl_append, h, ← foldl_map']
  exact fold_three t _
end Go.Proofs.YtcablikikkmfjaaGreat
end

section
/- Layer 20: ledgers. -/
set_option linter.unusedVariables false
set_option linter.unusedSimpArgs false
set_option maxRecDepth 100000
set_option maxHeartbeats 4000000
namespace Go.Proofs.YtcablikikkmfjaaGreat
open Go.Vc Go.RowKit
theorem TAd3aa {P : Prop} (h : P := by intro i hi; first | exact hi | exact ⟨_, by assumption, hi⟩ | (have hi9 : i = lm := hi; (first | show _ ∨ _ | show _ = _); omega)) : P := h
theorem TAd3ab {P : Prop} (h : P := by intro i hi; first | exact hi | exact ⟨_, by assumption, hi⟩ | (have hi9 : i = lg := hi; (first | show _ ∨ _ | show _ = _); omega)) : P := h

theorem lleft_any (lg lm : Nat) (room used : Int) (N : List (Int × Int)) (w : World) (hl : Ld w lg lm room used N) (hu : 0 ≤ used) (hur : used ≤ room) (hr : room ≤ 1152921504606846976)  :
  CV Tryz.prog 188 #[Pt lg 0] w (fun x w1 => x = I6 (room - used) ∧ Step No w w1) := by
 obtain ⟨hd, hm⟩ := hl
 have hS : Step No w w := Step.refl _ _
 refine VCe Tryz.func188 (Vrp (Vs (Vrp (Vf (VC_skip (Vn (Vs (Vd 8 [(3, I6 room), (7, I6 used)] [3, 7] ?_ ?_))))))))
 ·intro w1 hs1
  replace hd := hd.no hs1
  exact ⟨Dl hd, Dl hd, trivial⟩
 intro w1 hs1
 replace hS := Step.trans hS hs1
 refine Ve (Vn (VC_ret (Vr1 (I6 (IntKind.wrap .i64 (room - used))) ?_)))
 exact ⟨congrArg (Value.int .i64) (by first | rfl | exact wrap_i64 _ (by omega) (by omega)), hS⟩

theorem lbook_any (lg lm : Nat) (room used : Int) (N : List (Int × Int)) (id need : Int) (w : World) (hl : Ld w lg lm room used N) (hu : 0 ≤ used) (hur : used ≤ room) (hr : room ≤ 1152921504606846976) (hn : getM N id = none) (h0 : 0 ≤ need) (hle : need ≤ room - used)  :
  CV Tryz.prog 114 #[Pt lg 0, I6 id, I6 need] w (fun x w1 => x = I6 0 ∧ Ld w1 lg lm room (used + need) (putM N id need) ∧ Step (fun k => k = lg ∨ k = lm) w w1) := by
 obtain ⟨hd, hm⟩ := hl
 have hne : lg ≠ lm := Ld.ne ⟨hd, hm⟩
 have hS : Step (fun k => k = lg ∨ k = lm) w w := Step.refl _ _
 refine VCe Tryz.func114 (Vrp (Vs (Vrp (Vf (VC_skip (Vn (Vs (Vr (Vl 3 hd (Vp 5 (VL_lookup (ek := ei) (u := ui) (d := 17) (m := lm) (kt := 3) (z := I6 0) (k := id) (ok := true) (by kernel_rfl) (by kernel_rfl) keyTi hm (I6 ((getM N id).getD 0)) (by cases getM N id <;> rfl) (Ve (Vn (Vs (VC_block (Vs (Vr (Ve ?_))))))))))))))))))
 refine Vn (Viz (b := decide (need < 0)) (decide_eq_false (by omega)) (Vrp (Viz (b := (getM N id).isSome) (by rw [hn]; rfl) (Vs (Vr (Vp 2 ?_))))))
 refine Vc 2 Tryz.call188 (lleft_any lg lm room used N _ ⟨hd, hm⟩ hu hur hr) ?_
 rintro _ w1 ⟨rfl, hc1⟩
 replace hS := Step.trans hS (Step.weak hc1)
 replace hd := hd.no hc1
 replace hm := MapL.no hm hc1
 refine Ve (Vn (Viz (b := decide (need > (room - used))) (decide_eq_false (by omega)) (VC_skip (VQ_block_normal (Vn (Vs (Vr (Vl 3 hd (Vp 6 (VL_upd (ek := ei) (u := ui) (m := lm) (kt := 3) (k := id) (v := need) (by kernel_rfl) (by kernel_rfl) keyTi hm ?_))))))))))
 intro w2 hw1
 replace hS := Step.trans hS (Step.mono hw1.step TAd3aa)
 replace hd := hd.step hw1.step (show ¬ lg = lm by omega)
 have hM1 := hw1.map
 refine Ve (Vn (Vs (Vr (Vl 3 hd (Vst 8 (o := 1) [I6 (IntKind.wrap .i64 (used + need))] hd #[I6 room, I6 (IntKind.wrap .i64 (used + need)), .map (some lm)] ?_)))))
 intro w3 hw2
 replace hS := Step.trans hS (Step.mono hw2.step TAd3ab)
 replace hM1 := MapL.step hM1 hw2.step (show ¬ lm = lg by omega)
 have ho1 := hw2.own
 refine Ve (Vn (Vrp (VC_ret (Vr1 (I6 0) ?_))))
 exact ⟨rfl, ⟨Own.cast ho1 (by rw [show IntKind.wrap .i64 (used + need) = used + need from by first | rfl | (rw [wrap_i64 _ (by omega) (by omega)]) | (rw [wrap_i64 (need - was) (by omega) (by omega), wrap_i64 _ (by omega) (by omega)])]), hM1⟩, hS⟩

theorem lnew_any (r : Int) (w : World) :
  CV Tryz.prog 110 #[I6 r] w (fun x w1 => ∃ lg lm, x = Pt lg 0 ∧ w.heap.size ≤ lg ∧ w.heap.size ≤ lm ∧ Ld w1 lg lm (imax 0 (imin r 1152921504606846976)) 0 [] ∧ Step No w w1) := by
 have hS : Step No w w := Step.refl _ _
 refine VCe Tryz.func110 (Vrp (Vs (Vr (Vp 3 (VL_mkMap (d := 6) (by kernel_rfl) (by kernel_rfl) ?_)))))
 intro mp1 w1 hn1
 replace hS := Step.trans hS (hn1.step No)
 have hM1 := New.map hn1 ei ui
 have hzhn1 := hn1.size
 have hqhn1 := hn1.eqb
 refine Vp 5 ?_
 refine Vx 5 330 #[I6 (imax 0 (imin r 1152921504606846976)), I6 0, .map (some mp1)] ?_
 intro b1 w2 hn2
 replace hS := Step.trans hS (hn2.step No)
 replace hM1 := MapL.no hM1 (hn2.step No)
 have ho1 := hn2.own
 have hzhn2 := hn2.size
 have hqhn2 := hn2.eqb
 refine Ve (Vn (VC_ret (Vr1 (Pt b1 0) ?_)))
 exact ⟨b1, mp1, rfl, by omega, by omega, ⟨ho1, hM1⟩, hS⟩

end Go.Proofs.YtcablikikkmfjaaGreat
end

section
/- The calculus' twentieth part: loops in which marks are laid: each round may leave one more. -/
set_option linter.unusedVariables false
set_option linter.unusedSimpArgs false
namespace Go.Vc
open Go.RowKit
section
variable {r : Option Nat} {n : Nat} {ds : List Deferred} {P : Program} {Q : Exit → Act → World → Prop} {l : List (Nat × Value)} {w : World} {c : Code}
end
/-- Marks that lie between two bounds. -/
def MarksI (w : World) (lo hi : Nat) (Ds : List Nat) : Prop := Marks Ds w ∧ ∀ D ∈ Ds, lo ≤ D ∧ D < hi
theorem Marks.dfr {w : World} : ∀ {Ds : List Nat}, Marks Ds w → ∀ D ∈ Ds, Dfr w D
  | [], _, D, h => by simp at h
  | D0 :: Ds, h, D, hD => by
    rcases List.mem_cons.1 hD with rfl | hD
    · exact h.1
    · exact Marks.dfr h.2.2 D hD
section
variable {F : Nat → Prop} {w w' : World} {lo hi hi' D : Nat} {Ds : List Nat}
theorem MarksI.nil (w : World) (lo hi : Nat) : MarksI w lo hi [] := ⟨trivial, fun D h => by simp at h⟩
theorem MarksI.keep (h : MarksI w lo hi Ds) (hs : Step F w w') (hF : ∀ D, Dfr w D → lo ≤ D → D < hi → ¬ F D) : MarksI w' lo hi Ds :=
  ⟨h.1.step hs fun D hD => hF D (h.1.dfr D hD) (h.2 D hD).1 (h.2 D hD).2, h.2⟩
theorem MarksI.no (h : MarksI w lo hi Ds) (hs : Step No w w') : MarksI w' lo hi Ds := h.keep hs fun _ _ _ _ => id
theorem MarksI.ne {b : Nat} {cs : Array Value} {e : TypeId} (hD : Dfr w D) (ho : Own w b cs e) : D ≠ b := by
  rintro rfl
  unfold Dfr at hD
  unfold Own at ho
  rw [hD] at ho
  cases ho
theorem MarksI.own {b : Nat} {cs : Array Value} {e : TypeId} (h : MarksI w lo hi Ds) (ho : Own w b cs e) (hs : Step (Just b) w w') : MarksI w' lo hi Ds := h.keep hs fun D hD _ _ (e : D = b) => MarksI.ne hD ho e
theorem MarksI.mark {L : Nat} (h : MarksI w lo hi Ds) (hL : hi ≤ L) (hs : Step (Just L) w w') : MarksI w' lo hi Ds := h.keep hs fun D _ _ h2 (e : D = L) => by omega
theorem MarksI.mono (h : MarksI w lo hi Ds) (hh : hi ≤ hi') : MarksI w lo hi' Ds := ⟨h.1, fun D hD => ⟨(h.2 D hD).1, by have := (h.2 D hD).2; omega⟩⟩
theorem MarksI.cons (h : MarksI w lo hi Ds) (hD : Dfr w D) (hlo : lo ≤ D) (hhi : hi ≤ D) : MarksI w lo (D + 1) (D :: Ds) :=
  ⟨⟨hD, fun hm => by have := (h.2 D hm).2; omega, h.1⟩, fun E hE => by
    rcases List.mem_cons.1 hE with rfl | hE
    · exact ⟨hlo, by omega⟩
    · have := h.2 E hE; exact ⟨this.1, by omega⟩⟩
end
end Go.Vc
end

section
/- Layer 20: what a policer asks. -/
set_option linter.unusedVariables false
set_option linter.unusedSimpArgs false
set_option maxRecDepth 100000
set_option maxHeartbeats 4000000
namespace Go.Proofs.YtcablikikkmfjaaGreat
open Go.Vc Go.RowKit
theorem TAd4aa {P : Prop} (h : P := by have h9 := cntA_le clp l (j + 1); rw [cntA_yes hrq1 (by unfold askB; simp_all)] at h9; exact h9) : P := h
theorem TAd4ab {P : Prop} (h : P := by rw [cntA_yes hrq1 (by unfold askB; simp_all)]; exact hJn _ _ _ _ hJ hSJ) : P := h
theorem TAd4ac {P : Prop} (h : P := by rw [wrap_i64 _ (by omega) (by omega)]; omega) : P := h

theorem asked_any (pp : Nat) (clp : Int) (w : World) :
  CV Tryz.prog 251 #[Pt pp 0, I6 clp] w (fun x w1 => ∃ B1 B2, x = .func (.func 298) #[] #[Pt B1 0, Pt B2 0] ∧ w.heap.size ≤ B1 ∧ w.heap.size ≤ B2 ∧ Own w1 B1 #[Pt pp 0] 294 ∧ Own w1 B2 #[I6 clp] 3 ∧ Step No w w1) := by
 have hS : Step No w w := Step.refl _ _
 refine VCe Tryz.func251 (Vs (Vr ?_))
 refine Vx 0 294 #[Pt pp 0] ?_
 intro b1 w1 hn1
 replace hS := Step.trans hS (hn1.step No)
 have ho1 := hn1.own
 have hzhn1 := hn1.size
 have hqhn1 := hn1.eqb
 refine Vx 1 3 #[I6 clp] ?_
 intro b2 w2 hn2
 replace hS := Step.trans hS (hn2.step No)
 replace ho1 := ho1.no (hn2.step No)
 have ho2 := hn2.own
 have hzhn2 := hn2.size
 have hqhn2 := hn2.eqb
 refine Ve (Vn (Vrp (VC_ret (Vr1 (.func (.func 298) #[] #[Pt b1 0, Pt b2 0]) ?_))))
 exact ⟨b1, b2, rfl, by omega, by omega, ho1, ho2, hS⟩

theorem asked1_any (L : Nat) (B1 B2 pp rb c : Nat) (a : Bool) (clp c0 c1 c2 c3 : Int) (l : List Rb) (hlen : l.length < 1152921504606846976) (w : World) (J Jx : Nat → Nat → World → Prop) (M : Nat) (hJn : ∀ M k W W', J M k W → Step No W W' → J M k W') (hrd : ∀ M k W, J M k W → Own W B1 #[Pt pp 0] 294 ∧ Own W B2 #[I6 clp] 3 ∧ Own W pp (polArr a rb l.length c c0 c1 c2 c3) 381 ∧ Sl2 W rb (rb + 1) (some ⟨rb, 0, none⟩) (flat rlc l)) (hJ : J M 0 w) (hrl : rb < w.heap.size) (hy : ∀ k W args, M ≤ W.heap.size → (askV clp l)[k]? = some args → J M k W → YV Tryz.prog L args W fun v W' => Step (fun i => i < w.heap.size ∨ M ≤ i) W W' ∧ (v = Bo true ∧ J M (k + 1) W' ∨ v = Bo false ∧ Jx M (k + 1) W')) (hM : M ≤ w.heap.size) :
  CV Tryz.prog 298 #[.func (.yield L) #[] #[], Pt B1 0, Pt B2 0] w (fun _ w1 => J M (askV clp l).length w1 ∨ ∃ k, k ≤ (askV clp l).length ∧ Jx M k w1) := by
 obtain ⟨hB1, hB2, hpp, hrow⟩ := hrd _ _ _ hJ
 have hMz := hM
 have hSJ : Step No w w := Step.refl _ _
 refine VCe Tryz.func298 (Vs (Vr (Vl 0 hB1 (Vl 3 hpp (Ve (Vn (VC_block (VC_loop (σ := Nat) (fun σs => [(0, .func (.yield L) #[] #[]), (2, Pt B2 0), (9, .slice (some ⟨rb, 0, none⟩) l.length c), (10, I6 ((l.length : Nat) : Int)), (11, I6 ((σs : Nat) : Int))]) (fun σs wr => σs ≤ l.length ∧ J M (cntA clp l σs) wr ∧ M ≤ wr.heap.size ∧ rb < wr.heap.size ∧ Own wr B1 #[Pt pp 0] 294 ∧ Own wr B2 #[I6 clp] 3 ∧ Own wr pp (polArr a rb l.length c c0 c1 c2 c3) 381 ∧ Sl2 wr rb (rb + 1) (some ⟨rb, 0, none⟩) (flat rlc l)) (fun σs wr => l.length - σs) 0 Su ?_ ?_))))))))
 ·exact ⟨Nat.zero_le _, hJn _ _ _ _ hJ hSJ, hMz, hrl, hB1, hB2, hpp, hrow⟩
 rintro j wr ⟨hj0, hJ, hMz, hrl, hB1, hB2, hpp, hrow⟩
 try dsimp only at hj0 hJ hMz hrl hB1 hB2 hpp hrow ⊢
 have hSJ : Step No wr wr := Step.refl _ _
 refine Vrp (Vs (Vid (((j : Nat) : Int) < ((l.length : Nat) : Int)) (fun h1 => ?_) (fun h1 => ?_)))
 ·refine VC_skip (Vn (Vs (VC_block (Vs (Vr (VL_index (d := 13) (b := rb) (o := 0) (len := l.length) (sz := 5) (m := ((j : Nat) : Int)) (by kernel_rfl) (by kernel_rfl) j (by rfl) (by omega) (j * 5) (by omega) ?_))))))
  obtain ⟨rq1, hrq1⟩ : ∃ x, l[j]? = some x := ⟨_, List.getElem?_eq_getElem (by have hq9 : l.length = l.length := rfl; omega)⟩
  refine Vla 1 (t := 391) (a := ⟨rb, j * 5, none⟩) (v := .agg #[I6 rq1.1.step, I6 rq1.1.early, Bo rq1.1.zero, Bo rq1.1.tag, .iface 386 (Pt rq1.2 0)]) (Sl.flatAgg (sz := 5) (Sl2.sl hrow) rlc_len hrq1 0 5 (by kernel_rfl) (by decide) _ (by first | rfl | omega)) ?_
  have hzl1 := hB1.lt
  have hzl2 := hB2.lt
  have hzl3 := hpp.lt
  have hzk2 := hrl
  refine Vx 2 391 #[I6 0, I6 0, Bo false, Bo false, .nilIface] ?_
  intro b1 w1 hn1
  replace hSJ := Step.trans hSJ (hn1.step No)
  replace hMz := Nat.le_trans hMz (hn1.step No).size
  replace hB1 := hB1.no (hn1.step No)
  replace hB2 := hB2.no (hn1.step No)
  replace hpp := hpp.no (hn1.step No)
  replace hrow := hrow.step (hn1.step No) (fun k hk1 hk2 hF => hF)
  replace hrl := Nat.lt_of_lt_of_le hrl (hn1.step No).size
  have ho1 := hn1.own
  have hzhn1 := hn1.size
  have hqhn1 := hn1.eqb
  refine Vst 3 (o := 0) [I6 rq1.1.step, I6 rq1.1.early, Bo rq1.1.zero, Bo rq1.1.tag, .iface 386 (Pt rq1.2 0)] ho1 #[I6 rq1.1.step, I6 rq1.1.early, Bo rq1.1.zero, Bo rq1.1.tag, .iface 386 (Pt rq1.2 0)] ?_
  intro w2 hw1
  replace hSJ := Step.transNew hSJ hw1.step (fun _ _ _ => by omega)
  replace hMz := Nat.le_trans hMz (hw1.step).size
  replace hB1 := hB1.step hw1.step (show ¬ B1 = b1 by omega)
  replace hB2 := hB2.step hw1.step (show ¬ B2 = b1 by omega)
  replace hpp := hpp.step hw1.step (show ¬ pp = b1 by omega)
  replace hrow := hrow.step hw1.step (fun k hk1 hk2 (hF : k = b1) => by omega)
  replace hrl := Nat.lt_of_lt_of_le hrl (hw1.step).size
  have ho2 := hw1.own
  refine Ve (Vn (Vs (Vr (Vl 2 ho2 (VL_pure 5 [0, 2, 9, 10, 11, 5, 19] [(0, .func (.yield L) #[] #[]), (2, Pt B2 0), (9, .slice (some ⟨rb, 0, none⟩) l.length c), (10, I6 ((l.length : Nat) : Int)), (11, I6 ((j : Nat) : Int)), (5, Pt b1 0), (19, Bo (!rq1.1.zero))] (by kernel_rfl) rfl (VL_bool rq1.1.zero (fun bV => [(0, .func (.yield L) #[] #[]), (2, Pt B2 0), (9, .slice (some ⟨rb, 0, none⟩) l.length c), (10, I6 ((l.length : Nat) : Int)), (11, I6 ((j : Nat) : Int)), (5, Pt b1 0), (19, Bo (!bV))]) rfl (fun hg1 => ?_) (fun hg1 => ?_)))))))
  ·refine Vl 5 hB2 (VL_pure 9 [0, 2, 9, 10, 11, 5, 23] [(0, .func (.yield L) #[] #[]), (2, Pt B2 0), (9, .slice (some ⟨rb, 0, none⟩) l.length c), (10, I6 ((l.length : Nat) : Int)), (11, I6 ((j : Nat) : Int)), (5, Pt b1 0), (23, Bo (clp == 0))] (by kernel_rfl) rfl (VL_beq clp 0 (fun bV => [(0, .func (.yield L) #[] #[]), (2, Pt B2 0), (9, .slice (some ⟨rb, 0, none⟩) l.length c), (10, I6 ((l.length : Nat) : Int)), (11, I6 ((j : Nat) : Int)), (5, Pt b1 0), (23, Bo bV)]) rfl (fun hg2 => ?_) (fun hg2 => ?_)))
   ·refine Vl 10 ho2 ?_
    refine VL_yield (d := 26) (L := L) (args := #[.agg #[I6 rq1.1.step, I6 rq1.1.early, Bo rq1.1.zero, Bo rq1.1.tag, .iface 386 (Pt rq1.2 0)]]) (by kernel_rfl) (by kernel_rfl) (by kernel_rfl) (hy (cntA clp l j) _ _ hMz (askV_get hrq1 (by unfold askB; simp_all)) (hJn _ _ _ _ hJ hSJ)) ?_
    rintro _ w3 ⟨hshy1, (⟨rfl, hy1⟩ | ⟨rfl, hy1⟩)⟩
    ·replace hMz := Nat.le_trans hMz hshy1.size
     replace hrl := Nat.lt_of_lt_of_le hrl hshy1.size
     have hJ := hy1
     have hSJ : Step No w3 w3 := Step.refl _ _
     obtain ⟨hB1, hB2, hpp, hrow⟩ := hrd _ _ _ hJ
     refine Ve (Vn (Vf (VC_skip (VQ_block_normal (Vn (Vr (Vp 1 ?_)))))))
     have he1 : IntKind.wrap .i64 (((j : Nat) : Int) + 1) = ((j + 1 : Nat) : Int) := TAd4ac
     refine Vq 29 (I6 (IntKind.wrap .i64 (((j : Nat) : Int) + 1))) (I6 ((j + 1 : Nat) : Int)) (by rw [he1]) (Ve (VQ_again (j + 1) Su ?_ ?_))
     ·exact ⟨by omega, TAd4ab, hMz, hrl, hB1, hB2, hpp, hrow⟩
     ·(try dsimp only); omega
    ·refine Ve (Vn (Vt (VC_ret (VQ_block_ret (VQ_then_ret (VQ_then_ret (VQ_block_ret (Vr0 ?_))))))))
     exact .inr ⟨_, TAd4aa, hy1⟩
   ·refine Ve (Vn (Vf (VC_skip (VQ_block_normal (Vn (Vr (Vp 1 ?_)))))))
    have he2 : IntKind.wrap .i64 (((j : Nat) : Int) + 1) = ((j + 1 : Nat) : Int) := TAd4ac
    refine Vq 29 (I6 (IntKind.wrap .i64 (((j : Nat) : Int) + 1))) (I6 ((j + 1 : Nat) : Int)) (by rw [he2]) (Ve (VQ_again (j + 1) Su ?_ ?_))
    ·exact ⟨by omega, (by rw [cntA_no hrq1 (by unfold askB; simp_all)]; exact hJn _ _ _ _ hJ hSJ), hMz, hrl, hB1, hB2, hpp, hrow⟩
    ·(try dsimp only); omega
  ·refine Vl 10 ho2 ?_
   refine VL_yield (d := 26) (L := L) (args := #[.agg #[I6 rq1.1.step, I6 rq1.1.early, Bo rq1.1.zero, Bo rq1.1.tag, .iface 386 (Pt rq1.2 0)]]) (by kernel_rfl) (by kernel_rfl) (by kernel_rfl) (hy (cntA clp l j) _ _ hMz (askV_get hrq1 (by unfold askB; simp_all)) (hJn _ _ _ _ hJ hSJ)) ?_
   rintro _ w4 ⟨hshy2, (⟨rfl, hy2⟩ | ⟨rfl, hy2⟩)⟩
   ·replace hMz := Nat.le_trans hMz hshy2.size
    replace hrl := Nat.lt_of_lt_of_le hrl hshy2.size
    have hJ := hy2
    have hSJ : Step No w4 w4 := Step.refl _ _
    obtain ⟨hB1, hB2, hpp, hrow⟩ := hrd _ _ _ hJ
    refine Ve (Vn (Vf (VC_skip (VQ_block_normal (Vn (Vr (Vp 1 ?_)))))))
    have he3 : IntKind.wrap .i64 (((j : Nat) : Int) + 1) = ((j + 1 : Nat) : Int) := TAd4ac
    refine Vq 29 (I6 (IntKind.wrap .i64 (((j : Nat) : Int) + 1))) (I6 ((j + 1 : Nat) : Int)) (by rw [he3]) (Ve (VQ_again (j + 1) Su ?_ ?_))
    ·exact ⟨by omega, TAd4ab, hMz, hrl, hB1, hB2, hpp, hrow⟩
    ·(try dsimp only); omega
   ·refine Ve (Vn (Vt (VC_ret (VQ_block_ret (VQ_then_ret (VQ_then_ret (VQ_block_ret (Vr0 ?_))))))))
    exact .inr ⟨_, TAd4aa, hy2⟩
 ·refine VC_exit (VQ_then_exit (VQ_then_exit (VQ_block_hit (Vr0 ?_))))
  obtain rfl : j = l.length := by omega
  exact .inl (by rw [← cntA_len]; exact hJn _ _ _ _ hJ hSJ)

theorem asked_iter (B1 B2 pp rb c : Nat) (a : Bool) (clp c0 c1 c2 c3 : Int) (l : List Rb) (hlen : l.length < 1152921504606846976) :
    IterC Tryz.prog 298 #[.pointer (some ⟨B1, 0, none⟩), .pointer (some ⟨B2, 0, none⟩)] (askV clp l) (fun _ W => (Own W B1 #[.pointer (some ⟨pp, 0, none⟩)] 294 ∧ Own W B2 #[.int .i64 clp] 3 ∧ Own W pp (polArr a rb l.length c c0 c1 c2 c3) 381 ∧ Sl2 W rb (rb + 1) (some ⟨rb, 0, none⟩) (flat rlc l)) ∧ rb < W.heap.size) := by
  intro L W0 J Jx hJn hJxn hrd hrd0 h0 hy
  refine CV.mono (asked1_any L B1 B2 pp rb c a clp c0 c1 c2 c3 l hlen W0 J Jx W0.heap.size hJn (fun M k W h => (hrd M k W h).1) (h0 _ _ (Nat.le_refl _) (Nat.le_refl _) (Step.refl _ _)) hrd0.2 (fun k W args hM hx hj => hy _ k W args (Nat.le_refl _) hM hx hj) (Nat.le_refl _)) fun v W' hh => ⟨_, Nat.le_refl _, hh⟩
end Go.Proofs.YtcablikikkmfjaaGreat
end

section
/- Layer 20: a verdict. -/
set_option linter.unusedVariables false
set_option linter.unusedSimpArgs false
set_option maxRecDepth 100000
set_option maxHeartbeats 4000000
namespace Go.Proofs.YtcablikikkmfjaaGreat
open Go.Vc Go.RowKit
theorem TAd5aa {P : Prop} (h : P := by intro i hi; first | exact hi | exact ⟨_, by assumption, hi⟩ | (have hi9 : i = b2 := hi; (first | show _ ∨ _ | show _ = _); omega)) : P := h

theorem verdK_fit {t clp : Int} {l : List Rb} {k : Nat} {y : Rb} (hy : (askL clp l)[k]? = some y) (hv : verdK t clp l k ≠ 3) (hf : fitsB y.1.b t = true) : verdK t clp l (k + 1) = verdK t clp l k := by
  rw [verdK_succ hy]; unfold vS; rw [if_neg hv, if_pos hf]
theorem verdK_tag {t clp : Int} {l : List Rb} {k : Nat} {y : Rb} (hy : (askL clp l)[k]? = some y) (hv : verdK t clp l k ≠ 3) (hf : fitsB y.1.b t = false) (ht : y.1.tag = true) : verdK t clp l (k + 1) = 2 := by
  rw [verdK_succ hy]; unfold vS; rw [if_neg hv, if_neg (by rw [hf]; decide), if_pos ht]
theorem verdK_drop {t clp : Int} {l : List Rb} {k : Nat} {y : Rb} (hy : (askL clp l)[k]? = some y) (hv : verdK t clp l k ≠ 3) (hf : fitsB y.1.b t = false) (ht : y.1.tag = false) : verdR t clp (l.map (·.1)) = 3 := by
  refine verdK_three (k := k + 1) ?_
  rw [verdK_succ hy]; unfold vS; rw [if_neg hv, if_neg (by rw [hf]; decide), if_neg (by rw [ht]; decide)]
theorem verdict_any (pp rb c : Nat) (Y : Nat → Prop) (a : Bool) (c0 c1 c2 c3 t clp : Int) (l : List Rb) (w : World) (hX : PlX w pp Y a l rb c c0 c1 c2 c3) (hI : RlsI (l.map (·.1))) :
  CV Tryz.prog 250 #[Pt pp 0, I6 t, I6 clp] w (fun x w1 => x = I6 (verdR t clp (l.map (·.1))) ∧ Step No w w1) := by
 have hS : Step No w w := Step.refl _ _
 have hpp : Own w pp (polArr a rb l.length c c0 c1 c2 c3) 381 := hX.own
 have hrow := hX.row.sl
 have hbk := hX.bks
 have hrl := hX.row.lt
 have hbl := hbk.lt
 have hpl := hpp.lt
 have hlen : l.length < 1152921504606846976 := by have h9 := hI.1; rw [List.length_map] at h9; omega
 have hbi : ∀ y ∈ l, BkI y.1.b := fun y hy => hI.2 _ (List.mem_map_of_mem hy)
 refine VCm Tryz.func250 (Vs (Vr ?_))
 have hzk1 := hrl
 refine Vx 0 3 #[I6 t] ?_
 intro b1 w1 hn1
 replace hS := Step.trans hS (hn1.step No)
 replace hpp := hpp.no (hn1.step No)
 replace hrow := hrow.step (hn1.step No) (fun k hk1 hk2 hF => hF)
 replace hbk := BksW.no hbk (hn1.step No)
 replace hrl := Nat.lt_of_lt_of_le hrl (hn1.step No).size
 have ho1 := hn1.own
 have hzhn1 := hn1.size
 have hqhn1 := hn1.eqb
 refine Ve (Vn (VC_scope (Vs (Vr ?_))))
 refine Vx 0 3 #[I6 0] ?_
 intro b2 w2 hn2
 replace hS := Step.trans hS (hn2.step No)
 replace hpp := hpp.no (hn2.step No)
 replace hrow := hrow.step (hn2.step No) (fun k hk1 hk2 hF => hF)
 replace hbk := BksW.no hbk (hn2.step No)
 replace hrl := Nat.lt_of_lt_of_le hrl (hn2.step No).size
 replace ho1 := ho1.no (hn2.step No)
 have ho2 := hn2.own
 have hzhn2 := hn2.size
 have hqhn2 := hn2.eqb
 refine Vst 1 (o := 0) [I6 1] ho2 #[I6 1] ?_
 intro w3 hw1
 replace hS := Step.transNew hS hw1.step (fun _ _ _ => by omega)
 replace hpp := hpp.step hw1.step (show ¬ pp = b2 by omega)
 replace hrow := hrow.step hw1.step (fun k hk1 hk2 (hF : k = b2) => by omega)
 replace hbk := BksW.step hbk hw1.step (fun p hp hF => by have h9 := hbl p hp; have hF : p.2 = b2 := hF; omega)
 replace hrl := Nat.lt_of_lt_of_le hrl (hw1.step).size
 replace ho1 := ho1.step hw1.step (show ¬ b1 = b2 by omega)
 have ho3 := hw1.own
 have hzhw1 := hw1.same
 refine Ve (Vn (Vs (VC_label (Vn (Vs (Vs (Vr (Vp 2 ?_))))))))
 refine Vc 2 Tryz.call251 (asked_any pp clp _) ?_
 rintro _ w4 ⟨bb1, bb2, rfl, hgbb1, hgbb2, hbb1, hbb2, hc1⟩
 replace hS := Step.trans hS hc1
 replace hpp := hpp.no hc1
 replace hrow := hrow.step hc1 (fun k hk1 hk2 hF => hF)
 replace hbk := BksW.no hbk hc1
 replace hrl := Nat.lt_of_lt_of_le hrl (hc1).size
 replace ho1 := ho1.no hc1
 replace ho3 := ho3.no hc1
 have hzhbb1 := hbb1.lt
 have hzhbb2 := hbb2.lt
 refine Ve (Vn (VC_block ?_))
 have hzl7 := hpp.lt
 have hzl9 := ho3.lt
 refine VC_range (gf := 298) (lb := #[Pt bb1 0, Pt bb2 0]) (xs := (askV clp l)) (by kernel_rfl) Tryz.call298 (asked_iter bb1 bb2 pp rb c a clp c0 c1 c2 c3 l hlen) (fun a ha => askV_sz _ _ a ha) (by kernel_rfl) (fun M i => i = b2) (fun M i hi => by (try simp only at hi); omega) (fun M k W => (verdK t clp l (k) ≠ 3) ∧ (Step No w W) ∧ (Own W pp #[Bo a, .slice (some ⟨rb, 0, none⟩) l.length c, I6 c0, I6 c1, I6 c2, I6 c3] 381) ∧ (Sl2 W rb (rb + 1) (some ⟨rb, 0, none⟩) (flat rlc l)) ∧ (BksW W l) ∧ (rb < W.heap.size) ∧ (Own W b1 #[I6 t] 3) ∧ (Own W b2 #[I6 (verdK t clp l (k))] 3) ∧ (Own W bb1 #[Pt pp 0] 294) ∧ (Own W bb2 #[I6 clp] 3)) (fun e W => (e = Exit.exit 0) ∧ (verdR t clp (l.map (·.1)) = 3) ∧ (Step No w W) ∧ (Own W pp #[Bo a, .slice (some ⟨rb, 0, none⟩) l.length c, I6 c0, I6 c1, I6 c2, I6 c3] 381) ∧ (Sl2 W rb (rb + 1) (some ⟨rb, 0, none⟩) (flat rlc l)) ∧ (BksW W l) ∧ (rb < W.heap.size) ∧ (Own W b1 #[I6 t] 3) ∧ (Own W b2 #[I6 3] 3) ∧ (Own W bb1 #[Pt pp 0] 294) ∧ (Own W bb2 #[I6 clp] 3)) (by rintro M k W W' ⟨hv3, hS, hpp, hrow, hbk, hrl, ho1, ho3, hbb1, hbb2⟩ hs; exact ⟨hv3, Step.transNew hS hs (fun i hi hG => by have : i = (w4.heap.size + 1) := hG; omega), hpp.step hs (show ¬ pp = (w4.heap.size + 1) by omega), hrow.step hs (fun k hk1 hk2 (hF : k = (w4.heap.size + 1)) => by omega), BksW.step hbk hs (fun p hp hF => by have h9 := hbl p hp; have hF : p.2 = (w4.heap.size + 1) := hF; omega), Nat.lt_of_lt_of_le hrl hs.size, ho1.step hs (show ¬ b1 = (w4.heap.size + 1) by omega), ho3.step hs (show ¬ b2 = (w4.heap.size + 1) by omega), hbb1.step hs (show ¬ bb1 = (w4.heap.size + 1) by omega), hbb2.step hs (show ¬ bb2 = (w4.heap.size + 1) by omega)⟩) (by rintro e W W' ⟨hee, hv3, hS, hpp, hrow, hbk, hrl, ho1, ho3, hbb1, hbb2⟩ hs; exact ⟨hee, hv3, Step.transNew hS hs (fun i hi hG => by have : i = (w4.heap.size + 1) := hG; omega), hpp.step hs (show ¬ pp = (w4.heap.size + 1) by omega), hrow.step hs (fun k hk1 hk2 (hF : k = (w4.heap.size + 1)) => by omega), BksW.step hbk hs (fun p hp hF => by have h9 := hbl p hp; have hF : p.2 = (w4.heap.size + 1) := hF; omega), Nat.lt_of_lt_of_le hrl hs.size, ho1.step hs (show ¬ b1 = (w4.heap.size + 1) by omega), ho3.step hs (show ¬ b2 = (w4.heap.size + 1) by omega), hbb1.step hs (show ¬ bb1 = (w4.heap.size + 1) by omega), hbb2.step hs (show ¬ bb2 = (w4.heap.size + 1) by omega)⟩) (by rintro M k W W' ⟨hv3, hS, hpp, hrow, hbk, hrl, ho1, ho3, hbb1, hbb2⟩ hs; exact ⟨hv3, Step.trans hS hs, hpp.no hs, hrow.step hs (fun _ _ _ h9 => h9), (BksW.no hbk hs), Nat.lt_of_lt_of_le hrl hs.size, ho1.no hs, ho3.no hs, hbb1.no hs, hbb2.no hs⟩) (by rintro e W W' ⟨hee, hv3, hS, hpp, hrow, hbk, hrl, ho1, ho3, hbb1, hbb2⟩ hs; exact ⟨hee, hv3, Step.trans hS hs, hpp.no hs, hrow.step hs (fun _ _ _ h9 => h9), (BksW.no hbk hs), Nat.lt_of_lt_of_le hrl hs.size, ho1.no hs, ho3.no hs, hbb1.no hs, hbb2.no hs⟩) (by rintro M k W ⟨hv3, hS, hpp, hrow, hbk, hrl, ho1, ho3, hbb1, hbb2⟩; exact ⟨⟨hbb1, hbb2, hpp, hrow⟩, hrl⟩) (fun W hs => ⟨⟨hbb1.no hs, hbb2.no hs, hpp.no hs, hrow.step hs (fun _ _ _ h9 => h9)⟩, Nat.lt_of_lt_of_le hrl hs.size⟩) (fun M W hMm hM2 hs _ => ⟨by rw [verdK_zero]; decide, Step.trans hS hs, hpp.no hs, hrow.step hs (fun _ _ _ h9 => h9), (BksW.no hbk hs), Nat.lt_of_lt_of_le hrl hs.size, ho1.no hs, Own.cast (ho3.no hs) (by rw [verdK_zero]), hbb1.no hs, hbb2.no hs⟩) ?_ ?_ ?_
 ·intro M k w5 args hM hM2 hx hJ0 hsz
  obtain ⟨hv3, hS, hpp, hrow, hbk, hrl, ho1, ho3, hbb1, hbb2⟩ := hJ0
  obtain ⟨y, hy, hym, rfl⟩ := askV_mem hx
  have hAs : Step No w5 w5 := Step.refl _ _
  refine VC_keep [4, 7, 12] [(4, Pt b1 0), (7, Pt b2 0), (12, .agg #[I6 y.1.step, I6 y.1.early, Bo y.1.zero, Bo y.1.tag, .iface 386 (Pt y.2 0)])] (by kernel_rfl) (Vr ?_)
  have hzl17 := hpp.lt
  have hzk5 := hrl
  have hzl19 := ho3.lt
  have hzl20 := hbb1.lt
  have hzl21 := hbb2.lt
  refine Vx 0 391 #[I6 0, I6 0, Bo false, Bo false, .nilIface] ?_
  intro b3 w6 hn3
  replace hS := Step.trans hS (hn3.step No)
  replace hpp := hpp.no (hn3.step No)
  replace hrow := hrow.step (hn3.step No) (fun k hk1 hk2 hF => hF)
  replace hbk := BksW.no hbk (hn3.step No)
  replace hrl := Nat.lt_of_lt_of_le hrl (hn3.step No).size
  replace ho1 := ho1.no (hn3.step No)
  replace ho3 := ho3.no (hn3.step No)
  replace hbb1 := hbb1.no (hn3.step No)
  replace hbb2 := hbb2.no (hn3.step No)
  replace hAs := Step.trans hAs (hn3.step No)
  have ho4 := hn3.own
  have hzhn3 := hn3.size
  have hqhn3 := hn3.eqb
  refine Vst 1 (o := 0) [I6 y.1.step, I6 y.1.early, Bo y.1.zero, Bo y.1.tag, .iface 386 (Pt y.2 0)] ho4 #[I6 y.1.step, I6 y.1.early, Bo y.1.zero, Bo y.1.tag, .iface 386 (Pt y.2 0)] ?_
  intro w7 hw2
  replace hS := Step.transNew hS hw2.step (fun _ _ _ => by omega)
  replace hpp := hpp.step hw2.step (show ¬ pp = b3 by omega)
  replace hrow := hrow.step hw2.step (fun k hk1 hk2 (hF : k = b3) => by omega)
  replace hbk := BksW.step hbk hw2.step (fun p hp hF => by have h9 := hbl p hp; have hF : p.2 = b3 := hF; omega)
  replace hrl := Nat.lt_of_lt_of_le hrl (hw2.step).size
  replace ho1 := ho1.step hw2.step (show ¬ b1 = b3 by omega)
  replace ho3 := ho3.step hw2.step (show ¬ b2 = b3 by omega)
  replace hbb1 := hbb1.step hw2.step (show ¬ bb1 = b3 by omega)
  replace hbb2 := hbb2.step hw2.step (show ¬ bb2 = b3 by omega)
  replace hAs := Step.transNew hAs hw2.step (fun _ _ _ => by omega)
  have ho5 := hw2.own
  have hzhw2 := hw2.same
  refine Ve (VQ_begin hAs ?_)
  intro w8 hb1 hzhb1
  replace hS := Step.transNew hS hb1 (fun _ _ _ => by omega)
  replace hpp := hpp.step hb1 (show ¬ pp = (w4.heap.size + 1) by omega)
  replace hrow := hrow.step hb1 (fun k hk1 hk2 (hF : k = (w4.heap.size + 1)) => by omega)
  replace hbk := BksW.step hbk hb1 (fun p hp hF => by have h9 := hbl p hp; have hF : p.2 = (w4.heap.size + 1) := hF; omega)
  replace hrl := Nat.lt_of_lt_of_le hrl (hb1).size
  replace ho1 := ho1.step hb1 (show ¬ b1 = (w4.heap.size + 1) by omega)
  replace ho3 := ho3.step hb1 (show ¬ b2 = (w4.heap.size + 1) by omega)
  replace hbb1 := hbb1.step hb1 (show ¬ bb1 = (w4.heap.size + 1) by omega)
  replace hbb2 := hbb2.step hb1 (show ¬ bb2 = (w4.heap.size + 1) by omega)
  replace ho5 := ho5.step hb1 (show ¬ b3 = (w4.heap.size + 1) by omega)
  have hR1 : Step ((fun M i => i = b2) M) w8 w8 := Step.refl _ _
  refine VC_block (VC_block (Vs (Vr (Vl 1 ho5 (Vl 2 ho1 ?_)))))
  refine VL_invoke (d := 17) (f := 351) (args := #[Pt y.2 0, I6 t]) (by kernel_rfl) (by kernel_rfl) Tryz.call351 (bfits_any y.2 y.1.b t _ (hbi _ hym) (hbk _ hym)) ?_
  rintro _ w9 ⟨rfl, hc2⟩
  replace hS := Step.trans hS hc2
  replace hpp := hpp.no hc2
  replace hrow := hrow.step hc2 (fun k hk1 hk2 hF => hF)
  replace hbk := BksW.no hbk hc2
  replace hrl := Nat.lt_of_lt_of_le hrl (hc2).size
  replace ho1 := ho1.no hc2
  replace ho3 := ho3.no hc2
  replace hbb1 := hbb1.no hc2
  replace hbb2 := hbb2.no hc2
  replace ho5 := ho5.no hc2
  replace hR1 := Step.trans hR1 (Step.weak hc2)
  refine Ve (Vn (Vif (fitsB y.1.b t) (fun h1 => ?_) (fun h1 => ?_)))
  ·try simp only [BB] at h1
   refine VC_skip (VQ_block_normal (VQ_block_normal ?_))
   exact VQ_round_end hR1 ⟨(by rw [verdK_fit hy hv3 (by assumption)]; exact hv3), hS, hpp, hrow, hbk, hrl, ho1, (Own.cast ho3 (by rw [verdK_fit hy hv3 (by assumption)])), hbb1, hbb2⟩
  ·try simp only [BB] at h1
   refine Vs (Vr (Vl 2 ho5 (Ve (Vn (Vif y.1.tag (fun h2 => ?_) (fun h2 => ?_))))))
   ·try simp only [BB] at h2
    refine Vr (Vst 0 (o := 0) [I6 2] ho3 #[I6 2] ?_)
    intro w10 hw3
    replace hS := Step.transNew hS hw3.step (fun _ _ _ => by omega)
    replace hpp := hpp.step hw3.step (show ¬ pp = b2 by omega)
    replace hrow := hrow.step hw3.step (fun k hk1 hk2 (hF : k = b2) => by omega)
    replace hbk := BksW.step hbk hw3.step (fun p hp hF => by have h9 := hbl p hp; have hF : p.2 = b2 := hF; omega)
    replace hrl := Nat.lt_of_lt_of_le hrl (hw3.step).size
    replace ho1 := ho1.step hw3.step (show ¬ b1 = b2 by omega)
    replace hbb1 := hbb1.step hw3.step (show ¬ bb1 = b2 by omega)
    replace hbb2 := hbb2.step hw3.step (show ¬ bb2 = b2 by omega)
    replace hR1 := Step.trans hR1 (Step.mono hw3.step TAd5aa)
    have ho6 := hw3.own
    refine Ve (VQ_block_normal (VQ_block_normal ?_))
    exact VQ_round_end hR1 ⟨(by rw [verdK_tag hy hv3 (by assumption) (by assumption)]; decide), hS, hpp, hrow, hbk, hrl, ho1, (Own.cast ho6 (by rw [verdK_tag hy hv3 (by assumption) (by assumption)])), hbb1, hbb2⟩
   ·try simp only [BB] at h2
    refine Vs (Vr (Vst 0 (o := 0) [I6 3] ho3 #[I6 3] ?_))
    intro w11 hw4
    replace hS := Step.transNew hS hw4.step (fun _ _ _ => by omega)
    replace hpp := hpp.step hw4.step (show ¬ pp = b2 by omega)
    replace hrow := hrow.step hw4.step (fun k hk1 hk2 (hF : k = b2) => by omega)
    replace hbk := BksW.step hbk hw4.step (fun p hp hF => by have h9 := hbl p hp; have hF : p.2 = b2 := hF; omega)
    replace hrl := Nat.lt_of_lt_of_le hrl (hw4.step).size
    replace ho1 := ho1.step hw4.step (show ¬ b1 = b2 by omega)
    replace hbb1 := hbb1.step hw4.step (show ¬ bb1 = b2 by omega)
    replace hbb2 := hbb2.step hw4.step (show ¬ bb2 = b2 by omega)
    replace hR1 := Step.trans hR1 (Step.mono hw4.step TAd5aa)
    have ho7 := hw4.own
    refine Ve (Vn (VC_exit (VQ_block_miss (by kernel_rfl) (VQ_block_miss (by kernel_rfl) ?_))))
    exact VQ_round_exit hR1 ⟨rfl, (verdK_drop hy hv3 (by assumption) (by assumption)), hS, hpp, hrow, hbk, hrl, ho1, ho7, hbb1, hbb2⟩
 ·intro M w12 hM hzM hJ0 hD
  rw [verdK_all] at hJ0
  obtain ⟨hv3, hS, hpp, hrow, hbk, hrl, ho1, ho3, hbb1, hbb2⟩ := hJ0
  have hmk1 := hD
  refine VQ_block_normal (Vn (Vs (Vr (Vl 0 ho3 (Ve (Vn (VC_ret (VQ_scope_ret ?_))))))))
  refine VrM (I6 (verdR t clp (l.map (·.1)))) (Ds := [w4.heap.size]) ⟨hmk1, (by simp), trivial⟩ ?_
  intro w13 hq1
  replace hq1 : Step (Just w4.heap.size) w12 w13 := Step.mono hq1 (fun i hi => by simpa using hi)
  replace hS := Step.transNew hS hq1 (fun _ _ _ => by omega)
  exact ⟨rfl, hS⟩
 ·intro e w14 hzM hJ0 hD
  obtain ⟨hee, hv3, hS, hpp, hrow, hbk, hrl, ho1, ho3, hbb1, hbb2⟩ := hJ0
  subst hee
  have hmk2 := hD
  refine VQ_block_hit (Vn (Vs (Vr (Vl 0 ho3 (Ve (Vn (VC_ret (VQ_scope_ret ?_))))))))
  refine VrM (I6 3) (Ds := [w4.heap.size]) ⟨hmk2, (by simp), trivial⟩ ?_
  intro w15 hq2
  replace hq2 : Step (Just w4.heap.size) w14 w15 := Step.mono hq2 (fun i hi => by simpa using hi)
  replace hS := Step.transNew hS hq2 (fun _ _ _ => by omega)
  exact ⟨congrArg (Value.int .i64) hv3.symm, hS⟩

end Go.Proofs.YtcablikikkmfjaaGreat
end

section
/- Layer 20: a cell is policed. -/
set_option linter.unusedVariables false
set_option linter.unusedSimpArgs false
set_option maxRecDepth 100000
set_option maxHeartbeats 4000000
namespace Go.Proofs.YtcablikikkmfjaaGreat
open Go.Vc Go.RowKit
theorem TAd6aa {P : Prop} (h : P := by rintro M k W W' ⟨hS, hpp, hrow, hbk, hrl, ho1, hbb1, hbb2⟩ hs; exact ⟨Step.transNew hS hs (fun i hi hF => by have hF9 : i = (w3.heap.size + 1) := hF; omega), hpp.step hs (show ¬ pp = (w3.heap.size + 1) by omega), hrow.step hs (fun k hk1 hk2 (hF : k = (w3.heap.size + 1)) => by omega), BksW.step hbk hs (fun p hp hF => by have h9 := hbl _ p hp; have h8 := hbp _ p hp; have hF : p.2 = (w3.heap.size + 1) := hF; omega), Nat.lt_of_lt_of_le hrl hs.size, ho1.step hs (show ¬ b1 = (w3.heap.size + 1) by omega), hbb1.step hs (show ¬ bb1 = (w3.heap.size + 1) by omega), hbb2.step hs (show ¬ bb2 = (w3.heap.size + 1) by omega)⟩) : P := h
theorem TAd6ab {P : Prop} (h : P := by rintro M k W W' ⟨hS, hpp, hrow, hbk, hrl, ho1, hbb1, hbb2⟩ hs; exact ⟨(stepP_no hS hs), hpp.no hs, hrow.step hs (fun _ _ _ h9 => h9), (BksW.no hbk hs), Nat.lt_of_lt_of_le hrl hs.size, ho1.no hs, hbb1.no hs, hbb2.no hs⟩) : P := h
theorem TAd6ac {P : Prop} (h : P := by intro i hi; first | exact hi | exact ⟨_, by assumption, hi⟩ | (have hi9 : i = y.2 := hi; (first | show _ ∨ _ | show _ = _); omega)) : P := h
theorem TAd6ad {P : Prop} (h : P := by rw [polV_of hv]; first | rfl | simp_all) : P := h
theorem TAd6ae {P : Prop} (h : P := by rintro M k W ⟨hS, hpp, hrow, hbk, hrl, ho1, hbb1, hbb2⟩; exact ⟨⟨hbb1, hbb2, hpp, hrow⟩, hrl⟩) : P := h
theorem TAd6af {P : Prop} (h : P := by rintro e W W' h; exact h.elim) : P := h

/-- The first k of those that are asked have taken. -/
def takeK (t clp : Int) : Nat → List Rb → List Rb
  | _, [] => []
  | k, p :: l => if askB clp p.1 = true then (match k with | 0 => p :: l | k + 1 => (takeR t p.1, p.2) :: takeK t clp k l) else p :: takeK t clp k l
theorem takeK_zero (t clp : Int) : ∀ l, takeK t clp 0 l = l
  | [] => rfl
  | p :: l => by simp only [takeK, takeK_zero t clp l]; split <;> rfl
theorem takeK_snd (t clp : Int) : ∀ (l : List Rb) (k : Nat), (takeK t clp k l).map (·.2) = l.map (·.2)
  | [], _ => rfl
  | p :: l, k => by
    simp only [takeK]
    split
    · cases k with
      | zero => rfl
      | succ k => simp only [List.map_cons, takeK_snd t clp l k]
    · simp only [List.map_cons, takeK_snd t clp l k]
theorem takeK_flat (t clp : Int) : ∀ (l : List Rb) (k : Nat), flat rlc (takeK t clp k l) = flat rlc l
  | [], _ => rfl
  | p :: l, k => by
    simp only [takeK]
    split
    · cases k with
      | zero => rfl
      | succ k => rw [flat_cons, flat_cons, takeK_flat t clp l k]; rfl
    · rw [flat_cons, flat_cons, takeK_flat t clp l k]
theorem takeK_len (t clp : Int) (l : List Rb) (k : Nat) : (takeK t clp k l).length = l.length := by
  have := congrArg List.length (takeK_snd t clp l k)
  simpa using this
theorem takeK_mem (t clp : Int) : ∀ (l : List Rb) (k : Nat) (y : Rb), (askL clp l)[k]? = some y → y ∈ takeK t clp k l
  | [], k, y, h => by simp [askL] at h
  | p :: l, k, y, h => by
    simp only [takeK]
    by_cases ha : askB clp p.1 = true
    · rw [if_pos ha]
      unfold askL at h
      rw [List.filter_cons_of_pos (p := fun p : Rb => askB clp p.1) ha] at h
      cases k with
      | zero => simp only [List.getElem?_cons_zero, Option.some.injEq] at h; subst h; exact List.mem_cons_self ..
      | succ k => exact List.mem_cons_of_mem _ (takeK_mem t clp l k y (by simpa [askL] using h))
    · rw [if_neg ha]
      unfold askL at h
      rw [List.filter_cons_of_neg (p := fun p : Rb => askB clp p.1) ha] at h
      exact List.mem_cons_of_mem _ (takeK_mem t clp l k y h)
theorem takeK_succ (t clp : Int) : ∀ (l : List Rb) (k : Nat) (y : Rb), (l.map (·.2)).Nodup → (askL clp l)[k]? = some y → ∀ p ∈ takeK t clp (k + 1) l, p = (takeR t y.1, y.2) ∨ (p ∈ takeK t clp k l ∧ p.2 ≠ y.2)
  | [], k, y, _, h => by simp [askL] at h
  | q :: l, k, y, hnd, h => by
    intro p hp
    obtain ⟨hq, hnd'⟩ := List.nodup_cons.1 hnd
    have hsnd : ∀ k z, z ∈ takeK t clp k l → z.2 ∈ l.map (·.2) := fun k z hz => by rw [← takeK_snd t clp l k]; exact List.mem_map_of_mem hz
    have hym : ∀ k, (askL clp l)[k]? = some y → y.2 ∈ l.map (·.2) := fun k hk => List.mem_map_of_mem (List.mem_filter.1 (List.mem_of_getElem? hk)).1
    simp only [takeK] at hp ⊢
    by_cases ha : askB clp q.1 = true
    · rw [if_pos ha] at hp ⊢
      unfold askL at h
      rw [List.filter_cons_of_pos (p := fun p : Rb => askB clp p.1) ha] at h
      cases k with
      | zero =>
        simp only [List.getElem?_cons_zero, Option.some.injEq] at h
        subst h
        rcases List.mem_cons.1 hp with rfl | hp
        · exact .inl rfl
        · rw [takeK_zero] at hp
          exact .inr ⟨List.mem_cons_of_mem _ hp, fun e => hq (by have h9 : p.2 ∈ l.map (·.2) := List.mem_map_of_mem hp; rw [e] at h9; exact h9)⟩
      | succ k =>
        have h : (askL clp l)[k]? = some y := by simpa [askL] using h
        rcases List.mem_cons.1 hp with rfl | hp
        · exact .inr ⟨List.mem_cons_self .., fun e => hq (by have h9 := hym k h; have e : q.2 = y.2 := e; rw [← e] at h9; exact h9)⟩
        · rcases takeK_succ t clp l k y hnd' h p hp with h1 | ⟨h1, h2⟩
          · exact .inl h1
          · exact .inr ⟨List.mem_cons_of_mem _ h1, h2⟩
    · rw [if_neg ha] at hp ⊢
      unfold askL at h
      rw [List.filter_cons_of_neg (p := fun p : Rb => askB clp p.1) ha] at h
      rcases List.mem_cons.1 hp with rfl | hp
      · exact .inr ⟨List.mem_cons_self .., fun e => hq (by have h9 := hym k h; rw [← e] at h9; exact h9)⟩
      · rcases takeK_succ t clp l k y hnd' h p hp with h1 | ⟨h1, h2⟩
        · exact .inl h1
        · exact .inr ⟨List.mem_cons_of_mem _ h1, h2⟩
theorem takeK_all (t clp : Int) : ∀ (l : List Rb), (takeK t clp (askL clp l).length l).map (·.1) = (l.map (·.1)).map fun r => if askB clp r = true then takeR t r else r
  | [] => rfl
  | p :: l => by
    unfold askL
    simp only [takeK, List.map_cons, List.filter_cons]
    by_cases ha : askB clp p.1 = true
    · have := takeK_all t clp l
      unfold askL at this
      simp only [ha, if_true, List.length_cons, List.map_cons, this]
    · have := takeK_all t clp l
      unfold askL at this
      simp only [ha, Bool.false_eq_true, if_false, List.map_cons, this]
theorem BksW.take {w w1 : World} {t clp : Int} {l : List Rb} {k : Nat} {y : Rb} (h : BksW w (takeK t clp k l)) (hnd : (l.map (·.2)).Nodup) (hy : (askL clp l)[k]? = some y) (ho : Own w1 y.2 #[.int .i64 (takeB y.1.b t).step, .int .i64 (takeB y.1.b t).early, .int .i64 (takeB y.1.b t).next, .bool (takeB y.1.b t).any] 443) (hs : Step (Just y.2) w w1) : BksW w1 (takeK t clp (k + 1) l) := by
  intro p hp
  rcases takeK_succ t clp l k y hnd hy p hp with rfl | ⟨h1, h2⟩
  · exact ho
  · exact (h p h1).step hs h2
def polF (pp : Nat) (l : List Rb) (k : Nat) : Prop := k = pp ∨ ∃ p ∈ l, k = p.2
theorem stepP_no {pp : Nat} {l : List Rb} {w w1 w2 : World} (h : Step (polF pp l) w w1) (k : Step No w1 w2) : Step (polF pp l) w w2 := Step.trans h k.weak
theorem polV_of {a : Bool} {t clp v : Int} {l : List Rl} (hv : verdR t clp l = v) : polV a t clp l = if v = 1 ∧ a = true ∧ clp = 0 then 2 else v := by unfold polV; rw [hv]
theorem ptake_done {w w1 : World} {pp rb c k : Nat} {Y : Nat → Prop} {a : Bool} {c0 c1 c2 c3 d0 d1 d2 d3 t clp v : Int} {l : List Rb} (av : Int) (hX : PlX w pp Y a l rb c c0 c1 c2 c3) (hI : RlsI (l.map (·.1))) (hv : verdR t clp (l.map (·.1)) = v) (ho : Own w1 pp (polArr a rb l.length c d0 d1 d2 d3) 381)
    (hrow : Sl2 w1 rb (rb + 1) (some ⟨rb, 0, none⟩) (flat rlc l)) (hb : BksW w1 (takeK t av k l)) (hS : Step (polF pp l) w w1) (hk : (v = 3 ∧ k = 0) ∨ (v ≠ 3 ∧ av = asV v clp ∧ k = (askL av l).length)) : Pl w1 pp Y a (rulesT t clp (l.map (·.1))) ∧ Step Y w w1 := by
  have hFr : ¬ polF pp l rb := by
    rintro (h | ⟨p, hp, h⟩)
    · exact hX.ne_row h
    · exact (hX.ne_b p hp).2 h.symm
  have hsnd : ∀ p ∈ takeK t av k l, ∃ q ∈ l, q.2 = p.2 := fun p hp => by
    have h9 : p.2 ∈ l.map (·.2) := by rw [← takeK_snd t av l k]; exact List.mem_map_of_mem hp
    exact List.mem_map.1 h9
  have hty : ∀ q, Y q → PT w1 q := by
    intro q hq
    by_cases h1 : q = pp
    · subst h1; exact .inl ho.tyB
    · by_cases h2 : ∃ p ∈ l, q = p.2
      · obtain ⟨p, hp, rfl⟩ := h2
        have h9 : p.2 ∈ (takeK t av k l).map (·.2) := by rw [takeK_snd]; exact List.mem_map_of_mem hp
        obtain ⟨z, hz, he⟩ := List.mem_map.1 h9
        rw [← he]; exact .inr (.inr (hb z hz).tyB)
      · exact (hX.ty q hq).step hS (by rintro (h | h); exact h1 h; exact h2 h)
  refine ⟨⟨hI.take t clp, takeK t av k l, rb, c, d0, d1, d2, d3, ?_, ⟨?_, ⟨by rw [takeK_flat]; exact hrow, hX.row.ty.step hS hFr⟩, hb, by rw [takeK_snd]; exact hX.nodup, hX.inP, hX.inR, ?_, hty, by rw [takeK_len]; exact hX.pos⟩⟩, hS.mono ?_⟩
  · unfold rulesT
    rw [hv]
    rcases hk with ⟨rfl, rfl⟩ | ⟨h1, rfl, rfl⟩
    · rw [if_pos rfl, takeK_zero]
    · rw [if_neg h1, takeK_all]
  · rw [takeK_len]; exact ho
  · intro p hp
    obtain ⟨q, hq, h8⟩ := hsnd p hp
    rw [← h8]; exact hX.inB q hq
  · rintro i (rfl | ⟨p, hp, rfl⟩)
    · exact hX.inP
    · exact hX.inB p hp
theorem ptake_1 (pp rb c : Nat) (Y : Nat → Prop) (a : Bool) (c0 c1 c2 c3 t clp : Int) (l : List Rb) (w : World) (hX : PlX w pp Y a l rb c c0 c1 c2 c3) (hI : RlsI (l.map (·.1))) (hv : verdR t clp (l.map (·.1)) = 1) :
  CV Tryz.prog 198 #[Pt pp 0, I6 t, I6 clp] w (fun x w1 => x = I6 (polV a t clp (l.map (·.1))) ∧ Pl w1 pp Y a (rulesT t clp (l.map (·.1))) ∧ Step Y w w1) := by
 have hpp : Own w pp (polArr a rb l.length c c0 c1 c2 c3) 381 := hX.own
 have hrow := hX.row.sl
 have hbk : BksW w (takeK t clp (0) l) := by rw [takeK_zero]; exact hX.bks
 have hrl := hX.row.lt
 have hbl0 := hX.bks.lt
 have hin : ∀ k (p : Rb), p ∈ takeK t clp k l → ∃ q ∈ l, q.2 = p.2 := fun k p hp => List.mem_map.1 (by rw [← takeK_snd t clp l k]; exact List.mem_map_of_mem hp)
 have hbl : ∀ k (p : Rb), p ∈ takeK t clp k l → p.2 < w.heap.size := fun k p hp => by obtain ⟨q, hq, h8⟩ := hin k p hp; have h7 := hbl0 q hq; omega
 have hbp : ∀ k (p : Rb), p ∈ takeK t clp k l → p.2 ≠ pp := fun k p hp => by obtain ⟨q, hq, h8⟩ := hin k p hp; have h7 := (hX.ne_b q hq).1; omega
 have hnrp := hX.ne_row
 have hlen : l.length < 1152921504606846976 := by have h9 := hI.1; rw [List.length_map] at h9; omega
 have hbi : ∀ y ∈ l, BkI y.1.b := fun y hy => hI.2 _ (List.mem_map_of_mem hy)
 have hS : Step (polF pp l) w w := Step.refl _ _
 have hSn : Step No w w := Step.refl _ _
 refine VCm Tryz.func198 (Vs (Vr ?_))
 refine Vx 0 3 #[I6 t] ?_
 intro b1 w1 hn1
 replace hSn := Step.trans hSn (hn1.step No)
 replace hS := stepP_no hS (hn1.step No)
 replace hpp := hpp.no (hn1.step No)
 replace hrow := hrow.step (hn1.step No) (fun k hk1 hk2 hF => hF)
 replace hbk := BksW.no hbk (hn1.step No)
 replace hrl := Nat.lt_of_lt_of_le hrl (hn1.step No).size
 have ho1 := hn1.own
 have hzhn1 := hn1.size
 have hqhn1 := hn1.eqb
 refine Ve (Vn (Vs (Vrp (Vf (VC_skip (Vn (Vs (Vr (Vl 1 ho1 (Vp 3 ?_))))))))))
 refine Vc 3 Tryz.call250 ((verdict_any pp rb c Y a c0 c1 c2 c3 t clp l _ (hX.step hSn (fun _ _ h9 => h9)) hI).mono (fun x w1 h9 => ⟨h9.1.trans (by rw [hv]), h9.2⟩ : ∀ x w1, _ → x = I6 1 ∧ Step No _ w1)) ?_
 rintro _ w2 ⟨rfl, hc1⟩
 replace hS := stepP_no hS hc1
 replace hpp := hpp.no hc1
 replace hrow := hrow.step hc1 (fun k hk1 hk2 hF => hF)
 replace hbk := BksW.no hbk hc1
 replace hrl := Nat.lt_of_lt_of_le hrl (hc1).size
 replace ho1 := ho1.no hc1
 refine Ve (Vn (Vrp (Vs (Vrp (Vf (VC_skip (Vn (Vs (Vrp (Vt (Vs (Vr (Vp 2 ?_)))))))))))))
 have hzl5 := ho1.lt
 refine Vc 2 Tryz.call251 (asked_any pp clp _) ?_
 rintro _ w3 ⟨bb1, bb2, rfl, hgbb1, hgbb2, hbb1, hbb2, hc2⟩
 replace hS := stepP_no hS hc2
 replace hpp := hpp.no hc2
 replace hrow := hrow.step hc2 (fun k hk1 hk2 hF => hF)
 replace hbk := BksW.no hbk hc2
 replace hrl := Nat.lt_of_lt_of_le hrl (hc2).size
 replace ho1 := ho1.no hc2
 have hzhbb1 := hbb1.lt
 have hzhbb2 := hbb2.lt
 refine Ve (Vn (VC_block ?_))
 have hzl6 := hpp.lt
 have hzl7 := ho1.lt
 refine VC_range (gf := 298) (lb := #[Pt bb1 0, Pt bb2 0]) (xs := (askV clp l)) (by kernel_rfl) Tryz.call298 (asked_iter bb1 bb2 pp rb c a clp c0 c1 c2 c3 l hlen) (fun a ha => askV_sz _ _ a ha) (by kernel_rfl) (fun M i => ∃ p ∈ l, i = p.2) (fun M i ⟨p, hp, hi⟩ => by have h9 := hbl0 p hp; omega) (fun M k W => (Step (polF pp l) w W) ∧ (Own W pp #[Bo a, .slice (some ⟨rb, 0, none⟩) l.length c, I6 c0, I6 c1, I6 c2, I6 c3] 381) ∧ (Sl2 W rb (rb + 1) (some ⟨rb, 0, none⟩) (flat rlc l)) ∧ (BksW W (takeK t clp (k) l)) ∧ (rb < W.heap.size) ∧ (Own W b1 #[I6 t] 3) ∧ (Own W bb1 #[Pt pp 0] 294) ∧ (Own W bb2 #[I6 clp] 3)) (fun e W => False) TAd6aa TAd6af TAd6ab TAd6af TAd6ae (fun W hs => ⟨⟨hbb1.no hs, hbb2.no hs, hpp.no hs, hrow.step hs (fun _ _ _ h9 => h9)⟩, Nat.lt_of_lt_of_le hrl hs.size⟩) (fun M W hMm hM2 hs _ => ⟨(stepP_no hS hs), hpp.no hs, hrow.step hs (fun _ _ _ h9 => h9), (BksW.no hbk hs), Nat.lt_of_lt_of_le hrl hs.size, ho1.no hs, hbb1.no hs, hbb2.no hs⟩) ?_ ?_ ?_
 ·intro M k w4 args hM hM2 hx hJ0 hsz
  obtain ⟨hS, hpp, hrow, hbk, hrl, ho1, hbb1, hbb2⟩ := hJ0
  obtain ⟨y, hy, hym, rfl⟩ := askV_mem hx
  have hyl := hbl0 y hym
  have hyn := hX.ne_b y hym
  have hAs : Step No w4 w4 := Step.refl _ _
  refine VC_keep [4, 24] [(4, Pt b1 0), (24, .agg #[I6 y.1.step, I6 y.1.early, Bo y.1.zero, Bo y.1.tag, .iface 386 (Pt y.2 0)])] (by kernel_rfl) (Vr ?_)
  have hzl14 := hpp.lt
  have hzk4 := hrl
  have hzl15 := ho1.lt
  have hzl16 := hbb1.lt
  have hzl17 := hbb2.lt
  refine Vx 0 391 #[I6 0, I6 0, Bo false, Bo false, .nilIface] ?_
  intro b2 w5 hn2
  replace hS := stepP_no hS (hn2.step No)
  replace hpp := hpp.no (hn2.step No)
  replace hrow := hrow.step (hn2.step No) (fun k hk1 hk2 hF => hF)
  replace hbk := BksW.no hbk (hn2.step No)
  replace hrl := Nat.lt_of_lt_of_le hrl (hn2.step No).size
  replace ho1 := ho1.no (hn2.step No)
  replace hbb1 := hbb1.no (hn2.step No)
  replace hbb2 := hbb2.no (hn2.step No)
  replace hAs := Step.trans hAs (hn2.step No)
  have ho2 := hn2.own
  have hzhn2 := hn2.size
  have hqhn2 := hn2.eqb
  refine Vst 1 (o := 0) [I6 y.1.step, I6 y.1.early, Bo y.1.zero, Bo y.1.tag, .iface 386 (Pt y.2 0)] ho2 #[I6 y.1.step, I6 y.1.early, Bo y.1.zero, Bo y.1.tag, .iface 386 (Pt y.2 0)] ?_
  intro w6 hw1
  replace hS := Step.transNew hS hw1.step (fun i hi hF => by have hF9 : i = b2 := hF; omega)
  replace hpp := hpp.step hw1.step (show ¬ pp = b2 by omega)
  replace hrow := hrow.step hw1.step (fun k hk1 hk2 (hF : k = b2) => by omega)
  replace hbk := BksW.step hbk hw1.step (fun p hp hF => by have h9 := hbl _ p hp; have h8 := hbp _ p hp; have hF : p.2 = b2 := hF; omega)
  replace hrl := Nat.lt_of_lt_of_le hrl (hw1.step).size
  replace ho1 := ho1.step hw1.step (show ¬ b1 = b2 by omega)
  replace hbb1 := hbb1.step hw1.step (show ¬ bb1 = b2 by omega)
  replace hbb2 := hbb2.step hw1.step (show ¬ bb2 = b2 by omega)
  replace hAs := Step.transNew hAs hw1.step (fun _ _ _ => by omega)
  have ho3 := hw1.own
  have hzhw1 := hw1.same
  refine Ve (VQ_begin hAs ?_)
  intro w7 hb1 hzhb1
  replace hS := Step.transNew hS hb1 (fun i hi hF => by have hF9 : i = (w3.heap.size + 1) := hF; omega)
  replace hpp := hpp.step hb1 (show ¬ pp = (w3.heap.size + 1) by omega)
  replace hrow := hrow.step hb1 (fun k hk1 hk2 (hF : k = (w3.heap.size + 1)) => by omega)
  replace hbk := BksW.step hbk hb1 (fun p hp hF => by have h9 := hbl _ p hp; have h8 := hbp _ p hp; have hF : p.2 = (w3.heap.size + 1) := hF; omega)
  replace hrl := Nat.lt_of_lt_of_le hrl (hb1).size
  replace ho1 := ho1.step hb1 (show ¬ b1 = (w3.heap.size + 1) by omega)
  replace hbb1 := hbb1.step hb1 (show ¬ bb1 = (w3.heap.size + 1) by omega)
  replace hbb2 := hbb2.step hb1 (show ¬ bb2 = (w3.heap.size + 1) by omega)
  replace ho3 := ho3.step hb1 (show ¬ b2 = (w3.heap.size + 1) by omega)
  have hR1 : Step ((fun M i => ∃ p ∈ l, i = p.2) M) w7 w7 := Step.refl _ _
  refine VC_block (Vr (Vl 1 ho3 (Vl 2 ho1 ?_)))
  refine VL_invoke (d := 28) (f := 352) (args := #[Pt y.2 0, I6 t]) (by kernel_rfl) (by kernel_rfl) Tryz.call352 (btake_any y.2 y.1.b t _ (hbi _ hym) (hbk _ (takeK_mem t clp l k y hy))) ?_
  rintro _ w8 ⟨rfl, hbo, hc3⟩
  replace hS := Step.trans hS (Step.mono hc3 (fun i hi => .inr ⟨y, hym, hi⟩))
  replace hpp := hpp.step hc3 (show ¬ pp = y.2 by omega)
  replace hrow := hrow.step hc3 (fun k hk1 hk2 (hF : k = y.2) => by omega)
  replace hrl := Nat.lt_of_lt_of_le hrl (hc3).size
  replace ho1 := ho1.step hc3 (show ¬ b1 = y.2 by omega)
  replace hbb1 := hbb1.step hc3 (show ¬ bb1 = y.2 by omega)
  replace hbb2 := hbb2.step hc3 (show ¬ bb2 = y.2 by omega)
  replace hR1 := Step.trans hR1 (Step.mono hc3 TAd6ac)
  have hbk2 := BksW.take hbk hX.nodup hy hbo hc3
  refine Ve (VQ_block_normal ?_)
  exact VQ_round_end hR1 ⟨hS, hpp, hrow, hbk2, hrl, ho1, hbb1, hbb2⟩
 ·intro M w9 hM hzM hJ0 hD
  rw [askV_lenL] at hJ0
  obtain ⟨hS, hpp, hrow, hbk, hrl, ho1, hbb1, hbb2⟩ := hJ0
  have hmk1 := hD
  refine VQ_block_normal (Vn (Vs (Vs (Vr (Vl 6 hpp (VL_pure 9 [0, 2, 7, 37] [(0, Pt pp 0), (2, I6 clp), (7, I6 1), (37, Bo a)] (by kernel_rfl) rfl (VL_bool a (fun bV => [(0, Pt pp 0), (2, I6 clp), (7, I6 1), (37, Bo bV)]) rfl (fun hg1 => ?_) (fun hg1 => ?_))))))))
  ·refine Ve (Vn (Vie clp 0 (fun h1 => ?_) (fun h1 => ?_)))
   ·refine Vr (Ve (Vn (Vs (Vd 8 [(3, Pt pp 2), (4, I6 c0)] [3, 4] ?_ ?_))))
    ·intro w10 hs1
     replace hpp := hpp.no hs1
     exact ⟨Dv (Pt pp 2) (Det1_index (d := 44) (b := pp) (o := 2) (len := 4) (sz := 1) (m := 0) (by kernel_rfl) (by kernel_rfl) 0 (by rfl) (by omega) 2 (by omega)), Dl hpp, trivial⟩
    intro w10 hs1
    replace hS := stepP_no hS hs1
    replace hpp := hpp.no hs1
    replace hrow := hrow.step hs1 (fun k hk1 hk2 hF => hF)
    replace hbk := BksW.no hbk hs1
    replace hmk1 := hmk1.no hs1
    refine VL_index (d := 49) (b := pp) (o := 2) (len := 4) (sz := 1) (m := 0) (by kernel_rfl) (by kernel_rfl) 0 (by rfl) (by omega) 2 (by omega) (Vst 9 (o := 2) [I6 (IntKind.wrap .i64 (c0 + 1))] hpp #[Bo a, .slice (some ⟨rb, 0, none⟩) l.length c, I6 (IntKind.wrap .i64 (c0 + 1)), I6 c1, I6 c2, I6 c3] ?_)
    intro w11 hw2
    replace hS := Step.trans hS (Step.mono hw2.step (fun i hi => .inl hi))
    replace hrow := hrow.step hw2.step (fun k hk1 hk2 (hF : k = pp) => by omega)
    replace hbk := BksW.step hbk hw2.step (fun p hp hF => by have h9 := hbl _ p hp; have h8 := hbp _ p hp; have hF : p.2 = pp := hF; omega)
    replace hmk1 := hmk1.step hw2.step (show ¬ w3.heap.size = pp by omega)
    have ho4 := hw2.own
    refine Ve (Vn (Vs (Vd 9 [(4, Pt pp 4), (5, I6 c2)] [4, 5] ?_ ?_)))
    ·intro w12 hs2
     replace ho4 := ho4.no hs2
     exact ⟨Dv (Pt pp 4) (Det1_index (d := 54) (b := pp) (o := 2) (len := 4) (sz := 1) (m := 2) (by kernel_rfl) (by kernel_rfl) 2 (by rfl) (by omega) 4 (by omega)), Dl ho4, trivial⟩
    intro w12 hs2
    replace hS := stepP_no hS hs2
    replace hrow := hrow.step hs2 (fun k hk1 hk2 hF => hF)
    replace hbk := BksW.no hbk hs2
    replace hmk1 := hmk1.no hs2
    replace ho4 := ho4.no hs2
    refine VL_index (d := 59) (b := pp) (o := 2) (len := 4) (sz := 1) (m := 2) (by kernel_rfl) (by kernel_rfl) 2 (by rfl) (by omega) 4 (by omega) (Vst 10 (o := 4) [I6 (IntKind.wrap .i64 (c2 + 1))] ho4 #[Bo a, .slice (some ⟨rb, 0, none⟩) l.length c, I6 (IntKind.wrap .i64 (c0 + 1)), I6 c1, I6 (IntKind.wrap .i64 (c2 + 1)), I6 c3] ?_)
    intro w13 hw3
    replace hS := Step.trans hS (Step.mono hw3.step (fun i hi => .inl hi))
    replace hrow := hrow.step hw3.step (fun k hk1 hk2 (hF : k = pp) => by omega)
    replace hbk := BksW.step hbk hw3.step (fun p hp hF => by have h9 := hbl _ p hp; have h8 := hbp _ p hp; have hF : p.2 = pp := hF; omega)
    replace hmk1 := hmk1.step hw3.step (show ¬ w3.heap.size = pp by omega)
    have ho5 := hw3.own
    refine Ve (Vn (Vrp (VC_ret ?_)))
    refine VrM (I6 2) (Ds := [w3.heap.size]) ⟨hmk1, (by simp), trivial⟩ ?_
    intro w14 hq1
    replace hq1 : Step (Just w3.heap.size) w13 w14 := Step.mono hq1 (fun i hi => by simpa using hi)
    replace hS := Step.transNew hS hq1 (fun i hi hF => by have hF9 : i = w3.heap.size := hF; omega)
    replace hrow := hrow.step hq1 (fun k hk1 hk2 (hF : k = w3.heap.size) => by omega)
    replace hbk := BksW.step hbk hq1 (fun p hp hF => by have h9 := hbl _ p hp; have h8 := hbp _ p hp; have hF : p.2 = w3.heap.size := hF; omega)
    replace ho5 := ho5.step hq1 (show ¬ pp = w3.heap.size by omega)
    exact ⟨congrArg (Value.int .i64) TAd6ad, ptake_done clp hX hI hv ho5 hrow hbk hS (.inr ⟨by decide, rfl, rfl⟩)⟩
   ·refine VC_skip (Vn (Vs (Vd 8 [(3, Pt pp 2), (4, I6 c0)] [3, 4] ?_ ?_)))
    ·intro w15 hs3
     replace hpp := hpp.no hs3
     exact ⟨Dv (Pt pp 2) (Det1_index (d := 44) (b := pp) (o := 2) (len := 4) (sz := 1) (m := 0) (by kernel_rfl) (by kernel_rfl) 0 (by rfl) (by omega) 2 (by omega)), Dl hpp, trivial⟩
    intro w15 hs3
    replace hS := stepP_no hS hs3
    replace hpp := hpp.no hs3
    replace hrow := hrow.step hs3 (fun k hk1 hk2 hF => hF)
    replace hbk := BksW.no hbk hs3
    replace hmk1 := hmk1.no hs3
    refine VL_index (d := 49) (b := pp) (o := 2) (len := 4) (sz := 1) (m := 0) (by kernel_rfl) (by kernel_rfl) 0 (by rfl) (by omega) 2 (by omega) (Vst 9 (o := 2) [I6 (IntKind.wrap .i64 (c0 + 1))] hpp #[Bo a, .slice (some ⟨rb, 0, none⟩) l.length c, I6 (IntKind.wrap .i64 (c0 + 1)), I6 c1, I6 c2, I6 c3] ?_)
    intro w16 hw4
    replace hS := Step.trans hS (Step.mono hw4.step (fun i hi => .inl hi))
    replace hrow := hrow.step hw4.step (fun k hk1 hk2 (hF : k = pp) => by omega)
    replace hbk := BksW.step hbk hw4.step (fun p hp hF => by have h9 := hbl _ p hp; have h8 := hbp _ p hp; have hF : p.2 = pp := hF; omega)
    replace hmk1 := hmk1.step hw4.step (show ¬ w3.heap.size = pp by omega)
    have ho6 := hw4.own
    refine Ve (Vn (Vs (Vd 9 [(4, Pt pp 3), (5, I6 c1)] [4, 5] ?_ ?_)))
    ·intro w17 hs4
     replace ho6 := ho6.no hs4
     exact ⟨Dv (Pt pp 3) (Det1_index (d := 54) (b := pp) (o := 2) (len := 4) (sz := 1) (m := 1) (by kernel_rfl) (by kernel_rfl) 1 (by rfl) (by omega) 3 (by omega)), Dl ho6, trivial⟩
    intro w17 hs4
    replace hS := stepP_no hS hs4
    replace hrow := hrow.step hs4 (fun k hk1 hk2 hF => hF)
    replace hbk := BksW.no hbk hs4
    replace hmk1 := hmk1.no hs4
    replace ho6 := ho6.no hs4
    refine VL_index (d := 59) (b := pp) (o := 2) (len := 4) (sz := 1) (m := 1) (by kernel_rfl) (by kernel_rfl) 1 (by rfl) (by omega) 3 (by omega) (Vst 10 (o := 3) [I6 (IntKind.wrap .i64 (c1 + 1))] ho6 #[Bo a, .slice (some ⟨rb, 0, none⟩) l.length c, I6 (IntKind.wrap .i64 (c0 + 1)), I6 (IntKind.wrap .i64 (c1 + 1)), I6 c2, I6 c3] ?_)
    intro w18 hw5
    replace hS := Step.trans hS (Step.mono hw5.step (fun i hi => .inl hi))
    replace hrow := hrow.step hw5.step (fun k hk1 hk2 (hF : k = pp) => by omega)
    replace hbk := BksW.step hbk hw5.step (fun p hp hF => by have h9 := hbl _ p hp; have h8 := hbp _ p hp; have hF : p.2 = pp := hF; omega)
    replace hmk1 := hmk1.step hw5.step (show ¬ w3.heap.size = pp by omega)
    have ho7 := hw5.own
    refine Ve (Vn (Vrp (VC_ret ?_)))
    refine VrM (I6 1) (Ds := [w3.heap.size]) ⟨hmk1, (by simp), trivial⟩ ?_
    intro w19 hq2
    replace hq2 : Step (Just w3.heap.size) w18 w19 := Step.mono hq2 (fun i hi => by simpa using hi)
    replace hS := Step.transNew hS hq2 (fun i hi hF => by have hF9 : i = w3.heap.size := hF; omega)
    replace hrow := hrow.step hq2 (fun k hk1 hk2 (hF : k = w3.heap.size) => by omega)
    replace hbk := BksW.step hbk hq2 (fun p hp hF => by have h9 := hbl _ p hp; have h8 := hbp _ p hp; have hF : p.2 = w3.heap.size := hF; omega)
    replace ho7 := ho7.step hq2 (show ¬ pp = w3.heap.size by omega)
    exact ⟨congrArg (Value.int .i64) TAd6ad, ptake_done clp hX hI hv ho7 hrow hbk hS (.inr ⟨by decide, rfl, rfl⟩)⟩
  ·refine Ve (Vn (Vf (VC_skip (Vn (Vs (Vd 8 [(3, Pt pp 2), (4, I6 c0)] [3, 4] ?_ ?_))))))
   ·intro w20 hs5
    replace hpp := hpp.no hs5
    exact ⟨Dv (Pt pp 2) (Det1_index (d := 44) (b := pp) (o := 2) (len := 4) (sz := 1) (m := 0) (by kernel_rfl) (by kernel_rfl) 0 (by rfl) (by omega) 2 (by omega)), Dl hpp, trivial⟩
   intro w20 hs5
   replace hS := stepP_no hS hs5
   replace hpp := hpp.no hs5
   replace hrow := hrow.step hs5 (fun k hk1 hk2 hF => hF)
   replace hbk := BksW.no hbk hs5
   replace hmk1 := hmk1.no hs5
   refine VL_index (d := 49) (b := pp) (o := 2) (len := 4) (sz := 1) (m := 0) (by kernel_rfl) (by kernel_rfl) 0 (by rfl) (by omega) 2 (by omega) (Vst 9 (o := 2) [I6 (IntKind.wrap .i64 (c0 + 1))] hpp #[Bo a, .slice (some ⟨rb, 0, none⟩) l.length c, I6 (IntKind.wrap .i64 (c0 + 1)), I6 c1, I6 c2, I6 c3] ?_)
   intro w21 hw6
   replace hS := Step.trans hS (Step.mono hw6.step (fun i hi => .inl hi))
   replace hrow := hrow.step hw6.step (fun k hk1 hk2 (hF : k = pp) => by omega)
   replace hbk := BksW.step hbk hw6.step (fun p hp hF => by have h9 := hbl _ p hp; have h8 := hbp _ p hp; have hF : p.2 = pp := hF; omega)
   replace hmk1 := hmk1.step hw6.step (show ¬ w3.heap.size = pp by omega)
   have ho8 := hw6.own
   refine Ve (Vn (Vs (Vd 9 [(4, Pt pp 3), (5, I6 c1)] [4, 5] ?_ ?_)))
   ·intro w22 hs6
    replace ho8 := ho8.no hs6
    exact ⟨Dv (Pt pp 3) (Det1_index (d := 54) (b := pp) (o := 2) (len := 4) (sz := 1) (m := 1) (by kernel_rfl) (by kernel_rfl) 1 (by rfl) (by omega) 3 (by omega)), Dl ho8, trivial⟩
   intro w22 hs6
   replace hS := stepP_no hS hs6
   replace hrow := hrow.step hs6 (fun k hk1 hk2 hF => hF)
   replace hbk := BksW.no hbk hs6
   replace hmk1 := hmk1.no hs6
   replace ho8 := ho8.no hs6
   refine VL_index (d := 59) (b := pp) (o := 2) (len := 4) (sz := 1) (m := 1) (by kernel_rfl) (by kernel_rfl) 1 (by rfl) (by omega) 3 (by omega) (Vst 10 (o := 3) [I6 (IntKind.wrap .i64 (c1 + 1))] ho8 #[Bo a, .slice (some ⟨rb, 0, none⟩) l.length c, I6 (IntKind.wrap .i64 (c0 + 1)), I6 (IntKind.wrap .i64 (c1 + 1)), I6 c2, I6 c3] ?_)
   intro w23 hw7
   replace hS := Step.trans hS (Step.mono hw7.step (fun i hi => .inl hi))
   replace hrow := hrow.step hw7.step (fun k hk1 hk2 (hF : k = pp) => by omega)
   replace hbk := BksW.step hbk hw7.step (fun p hp hF => by have h9 := hbl _ p hp; have h8 := hbp _ p hp; have hF : p.2 = pp := hF; omega)
   replace hmk1 := hmk1.step hw7.step (show ¬ w3.heap.size = pp by omega)
   have ho9 := hw7.own
   refine Ve (Vn (Vrp (VC_ret ?_)))
   refine VrM (I6 1) (Ds := [w3.heap.size]) ⟨hmk1, (by simp), trivial⟩ ?_
   intro w24 hq3
   replace hq3 : Step (Just w3.heap.size) w23 w24 := Step.mono hq3 (fun i hi => by simpa using hi)
   replace hS := Step.transNew hS hq3 (fun i hi hF => by have hF9 : i = w3.heap.size := hF; omega)
   replace hrow := hrow.step hq3 (fun k hk1 hk2 (hF : k = w3.heap.size) => by omega)
   replace hbk := BksW.step hbk hq3 (fun p hp hF => by have h9 := hbl _ p hp; have h8 := hbp _ p hp; have hF : p.2 = w3.heap.size := hF; omega)
   replace ho9 := ho9.step hq3 (show ¬ pp = w3.heap.size by omega)
   exact ⟨congrArg (Value.int .i64) TAd6ad, ptake_done clp hX hI hv ho9 hrow hbk hS (.inr ⟨by decide, rfl, rfl⟩)⟩
 ·intro e W _ hF _; exact hF.elim

theorem ptake_2 (pp rb c : Nat) (Y : Nat → Prop) (a : Bool) (c0 c1 c2 c3 t clp : Int) (l : List Rb) (w : World) (hX : PlX w pp Y a l rb c c0 c1 c2 c3) (hI : RlsI (l.map (·.1))) (hv : verdR t clp (l.map (·.1)) = 2) :
  CV Tryz.prog 198 #[Pt pp 0, I6 t, I6 clp] w (fun x w1 => x = I6 (polV a t clp (l.map (·.1))) ∧ Pl w1 pp Y a (rulesT t clp (l.map (·.1))) ∧ Step Y w w1) := by
 have hpp : Own w pp (polArr a rb l.length c c0 c1 c2 c3) 381 := hX.own
 have hrow := hX.row.sl
 have hbk : BksW w (takeK t 1 (0) l) := by rw [takeK_zero]; exact hX.bks
 have hrl := hX.row.lt
 have hbl0 := hX.bks.lt
 have hin : ∀ k (p : Rb), p ∈ takeK t 1 k l → ∃ q ∈ l, q.2 = p.2 := fun k p hp => List.mem_map.1 (by rw [← takeK_snd t 1 l k]; exact List.mem_map_of_mem hp)
 have hbl : ∀ k (p : Rb), p ∈ takeK t 1 k l → p.2 < w.heap.size := fun k p hp => by obtain ⟨q, hq, h8⟩ := hin k p hp; have h7 := hbl0 q hq; omega
 have hbp : ∀ k (p : Rb), p ∈ takeK t 1 k l → p.2 ≠ pp := fun k p hp => by obtain ⟨q, hq, h8⟩ := hin k p hp; have h7 := (hX.ne_b q hq).1; omega
 have hnrp := hX.ne_row
 have hlen : l.length < 1152921504606846976 := by have h9 := hI.1; rw [List.length_map] at h9; omega
 have hbi : ∀ y ∈ l, BkI y.1.b := fun y hy => hI.2 _ (List.mem_map_of_mem hy)
 have hS : Step (polF pp l) w w := Step.refl _ _
 have hSn : Step No w w := Step.refl _ _
 refine VCm Tryz.func198 (Vs (Vr ?_))
 refine Vx 0 3 #[I6 t] ?_
 intro b1 w1 hn1
 replace hSn := Step.trans hSn (hn1.step No)
 replace hS := stepP_no hS (hn1.step No)
 replace hpp := hpp.no (hn1.step No)
 replace hrow := hrow.step (hn1.step No) (fun k hk1 hk2 hF => hF)
 replace hbk := BksW.no hbk (hn1.step No)
 replace hrl := Nat.lt_of_lt_of_le hrl (hn1.step No).size
 have ho1 := hn1.own
 have hzhn1 := hn1.size
 have hqhn1 := hn1.eqb
 refine Ve (Vn (Vs (Vrp (Vf (VC_skip (Vn (Vs (Vr (Vl 1 ho1 (Vp 3 ?_))))))))))
 refine Vc 3 Tryz.call250 ((verdict_any pp rb c Y a c0 c1 c2 c3 t clp l _ (hX.step hSn (fun _ _ h9 => h9)) hI).mono (fun x w1 h9 => ⟨h9.1.trans (by rw [hv]), h9.2⟩ : ∀ x w1, _ → x = I6 2 ∧ Step No _ w1)) ?_
 rintro _ w2 ⟨rfl, hc1⟩
 replace hS := stepP_no hS hc1
 replace hpp := hpp.no hc1
 replace hrow := hrow.step hc1 (fun k hk1 hk2 hF => hF)
 replace hbk := BksW.no hbk hc1
 replace hrl := Nat.lt_of_lt_of_le hrl (hc1).size
 replace ho1 := ho1.no hc1
 refine Ve (Vn (Vrp (Vs (Vrp (Vt (Vr (Ve (Vn (Vs (Vrp (Vt (Vs (Vr (Vp 2 ?_))))))))))))))
 have hzl5 := ho1.lt
 refine Vc 2 Tryz.call251 (asked_any pp 1 _) ?_
 rintro _ w3 ⟨bb1, bb2, rfl, hgbb1, hgbb2, hbb1, hbb2, hc2⟩
 replace hS := stepP_no hS hc2
 replace hpp := hpp.no hc2
 replace hrow := hrow.step hc2 (fun k hk1 hk2 hF => hF)
 replace hbk := BksW.no hbk hc2
 replace hrl := Nat.lt_of_lt_of_le hrl (hc2).size
 replace ho1 := ho1.no hc2
 have hzhbb1 := hbb1.lt
 have hzhbb2 := hbb2.lt
 refine Ve (Vn (VC_block ?_))
 have hzl6 := hpp.lt
 have hzl7 := ho1.lt
 refine VC_range (gf := 298) (lb := #[Pt bb1 0, Pt bb2 0]) (xs := (askV 1 l)) (by kernel_rfl) Tryz.call298 (asked_iter bb1 bb2 pp rb c a 1 c0 c1 c2 c3 l hlen) (fun a ha => askV_sz _ _ a ha) (by kernel_rfl) (fun M i => ∃ p ∈ l, i = p.2) (fun M i ⟨p, hp, hi⟩ => by have h9 := hbl0 p hp; omega) (fun M k W => (Step (polF pp l) w W) ∧ (Own W pp #[Bo a, .slice (some ⟨rb, 0, none⟩) l.length c, I6 c0, I6 c1, I6 c2, I6 c3] 381) ∧ (Sl2 W rb (rb + 1) (some ⟨rb, 0, none⟩) (flat rlc l)) ∧ (BksW W (takeK t 1 (k) l)) ∧ (rb < W.heap.size) ∧ (Own W b1 #[I6 t] 3) ∧ (Own W bb1 #[Pt pp 0] 294) ∧ (Own W bb2 #[I6 1] 3)) (fun e W => False) TAd6aa TAd6af TAd6ab TAd6af TAd6ae (fun W hs => ⟨⟨hbb1.no hs, hbb2.no hs, hpp.no hs, hrow.step hs (fun _ _ _ h9 => h9)⟩, Nat.lt_of_lt_of_le hrl hs.size⟩) (fun M W hMm hM2 hs _ => ⟨(stepP_no hS hs), hpp.no hs, hrow.step hs (fun _ _ _ h9 => h9), (BksW.no hbk hs), Nat.lt_of_lt_of_le hrl hs.size, ho1.no hs, hbb1.no hs, hbb2.no hs⟩) ?_ ?_ ?_
 ·intro M k w4 args hM hM2 hx hJ0 hsz
  obtain ⟨hS, hpp, hrow, hbk, hrl, ho1, hbb1, hbb2⟩ := hJ0
  obtain ⟨y, hy, hym, rfl⟩ := askV_mem hx
  have hyl := hbl0 y hym
  have hyn := hX.ne_b y hym
  have hAs : Step No w4 w4 := Step.refl _ _
  refine VC_keep [4, 24] [(4, Pt b1 0), (24, .agg #[I6 y.1.step, I6 y.1.early, Bo y.1.zero, Bo y.1.tag, .iface 386 (Pt y.2 0)])] (by kernel_rfl) (Vr ?_)
  have hzl14 := hpp.lt
  have hzk4 := hrl
  have hzl15 := ho1.lt
  have hzl16 := hbb1.lt
  have hzl17 := hbb2.lt
  refine Vx 0 391 #[I6 0, I6 0, Bo false, Bo false, .nilIface] ?_
  intro b2 w5 hn2
  replace hS := stepP_no hS (hn2.step No)
  replace hpp := hpp.no (hn2.step No)
  replace hrow := hrow.step (hn2.step No) (fun k hk1 hk2 hF => hF)
  replace hbk := BksW.no hbk (hn2.step No)
  replace hrl := Nat.lt_of_lt_of_le hrl (hn2.step No).size
  replace ho1 := ho1.no (hn2.step No)
  replace hbb1 := hbb1.no (hn2.step No)
  replace hbb2 := hbb2.no (hn2.step No)
  replace hAs := Step.trans hAs (hn2.step No)
  have ho2 := hn2.own
  have hzhn2 := hn2.size
  have hqhn2 := hn2.eqb
  refine Vst 1 (o := 0) [I6 y.1.step, I6 y.1.early, Bo y.1.zero, Bo y.1.tag, .iface 386 (Pt y.2 0)] ho2 #[I6 y.1.step, I6 y.1.early, Bo y.1.zero, Bo y.1.tag, .iface 386 (Pt y.2 0)] ?_
  intro w6 hw1
  replace hS := Step.transNew hS hw1.step (fun i hi hF => by have hF9 : i = b2 := hF; omega)
  replace hpp := hpp.step hw1.step (show ¬ pp = b2 by omega)
  replace hrow := hrow.step hw1.step (fun k hk1 hk2 (hF : k = b2) => by omega)
  replace hbk := BksW.step hbk hw1.step (fun p hp hF => by have h9 := hbl _ p hp; have h8 := hbp _ p hp; have hF : p.2 = b2 := hF; omega)
  replace hrl := Nat.lt_of_lt_of_le hrl (hw1.step).size
  replace ho1 := ho1.step hw1.step (show ¬ b1 = b2 by omega)
  replace hbb1 := hbb1.step hw1.step (show ¬ bb1 = b2 by omega)
  replace hbb2 := hbb2.step hw1.step (show ¬ bb2 = b2 by omega)
  replace hAs := Step.transNew hAs hw1.step (fun _ _ _ => by omega)
  have ho3 := hw1.own
  have hzhw1 := hw1.same
  refine Ve (VQ_begin hAs ?_)
  intro w7 hb1 hzhb1
  replace hS := Step.transNew hS hb1 (fun i hi hF => by have hF9 : i = (w3.heap.size + 1) := hF; omega)
  replace hpp := hpp.step hb1 (show ¬ pp = (w3.heap.size + 1) by omega)
  replace hrow := hrow.step hb1 (fun k hk1 hk2 (hF : k = (w3.heap.size + 1)) => by omega)
  replace hbk := BksW.step hbk hb1 (fun p hp hF => by have h9 := hbl _ p hp; have h8 := hbp _ p hp; have hF : p.2 = (w3.heap.size + 1) := hF; omega)
  replace hrl := Nat.lt_of_lt_of_le hrl (hb1).size
  replace ho1 := ho1.step hb1 (show ¬ b1 = (w3.heap.size + 1) by omega)
  replace hbb1 := hbb1.step hb1 (show ¬ bb1 = (w3.heap.size + 1) by omega)
  replace hbb2 := hbb2.step hb1 (show ¬ bb2 = (w3.heap.size + 1) by omega)
  replace ho3 := ho3.step hb1 (show ¬ b2 = (w3.heap.size + 1) by omega)
  have hR1 : Step ((fun M i => ∃ p ∈ l, i = p.2) M) w7 w7 := Step.refl _ _
  refine VC_block (Vr (Vl 1 ho3 (Vl 2 ho1 ?_)))
  refine VL_invoke (d := 28) (f := 352) (args := #[Pt y.2 0, I6 t]) (by kernel_rfl) (by kernel_rfl) Tryz.call352 (btake_any y.2 y.1.b t _ (hbi _ hym) (hbk _ (takeK_mem t 1 l k y hy))) ?_
  rintro _ w8 ⟨rfl, hbo, hc3⟩
  replace hS := Step.trans hS (Step.mono hc3 (fun i hi => .inr ⟨y, hym, hi⟩))
  replace hpp := hpp.step hc3 (show ¬ pp = y.2 by omega)
  replace hrow := hrow.step hc3 (fun k hk1 hk2 (hF : k = y.2) => by omega)
  replace hrl := Nat.lt_of_lt_of_le hrl (hc3).size
  replace ho1 := ho1.step hc3 (show ¬ b1 = y.2 by omega)
  replace hbb1 := hbb1.step hc3 (show ¬ bb1 = y.2 by omega)
  replace hbb2 := hbb2.step hc3 (show ¬ bb2 = y.2 by omega)
  replace hR1 := Step.trans hR1 (Step.mono hc3 TAd6ac)
  have hbk2 := BksW.take hbk hX.nodup hy hbo hc3
  refine Ve (VQ_block_normal ?_)
  exact VQ_round_end hR1 ⟨hS, hpp, hrow, hbk2, hrl, ho1, hbb1, hbb2⟩
 ·intro M w9 hM hzM hJ0 hD
  rw [askV_lenL] at hJ0
  obtain ⟨hS, hpp, hrow, hbk, hrl, ho1, hbb1, hbb2⟩ := hJ0
  have hmk1 := hD
  refine VQ_block_normal (Vn (Vs (Vrp (Vf (VC_skip (Vn (Vs (Vd 8 [(3, Pt pp 2), (4, I6 c0)] [3, 4] ?_ ?_))))))))
  ·intro w10 hs1
   replace hpp := hpp.no hs1
   exact ⟨Dv (Pt pp 2) (Det1_index (d := 44) (b := pp) (o := 2) (len := 4) (sz := 1) (m := 0) (by kernel_rfl) (by kernel_rfl) 0 (by rfl) (by omega) 2 (by omega)), Dl hpp, trivial⟩
  intro w10 hs1
  replace hS := stepP_no hS hs1
  replace hpp := hpp.no hs1
  replace hrow := hrow.step hs1 (fun k hk1 hk2 hF => hF)
  replace hbk := BksW.no hbk hs1
  replace hmk1 := hmk1.no hs1
  refine VL_index (d := 49) (b := pp) (o := 2) (len := 4) (sz := 1) (m := 0) (by kernel_rfl) (by kernel_rfl) 0 (by rfl) (by omega) 2 (by omega) (Vst 9 (o := 2) [I6 (IntKind.wrap .i64 (c0 + 1))] hpp #[Bo a, .slice (some ⟨rb, 0, none⟩) l.length c, I6 (IntKind.wrap .i64 (c0 + 1)), I6 c1, I6 c2, I6 c3] ?_)
  intro w11 hw2
  replace hS := Step.trans hS (Step.mono hw2.step (fun i hi => .inl hi))
  replace hrow := hrow.step hw2.step (fun k hk1 hk2 (hF : k = pp) => by omega)
  replace hbk := BksW.step hbk hw2.step (fun p hp hF => by have h9 := hbl _ p hp; have h8 := hbp _ p hp; have hF : p.2 = pp := hF; omega)
  replace hmk1 := hmk1.step hw2.step (show ¬ w3.heap.size = pp by omega)
  have ho4 := hw2.own
  refine Ve (Vn (Vs (Vd 9 [(4, Pt pp 4), (5, I6 c2)] [4, 5] ?_ ?_)))
  ·intro w12 hs2
   replace ho4 := ho4.no hs2
   exact ⟨Dv (Pt pp 4) (Det1_index (d := 54) (b := pp) (o := 2) (len := 4) (sz := 1) (m := 2) (by kernel_rfl) (by kernel_rfl) 2 (by rfl) (by omega) 4 (by omega)), Dl ho4, trivial⟩
  intro w12 hs2
  replace hS := stepP_no hS hs2
  replace hrow := hrow.step hs2 (fun k hk1 hk2 hF => hF)
  replace hbk := BksW.no hbk hs2
  replace hmk1 := hmk1.no hs2
  replace ho4 := ho4.no hs2
  refine VL_index (d := 59) (b := pp) (o := 2) (len := 4) (sz := 1) (m := 2) (by kernel_rfl) (by kernel_rfl) 2 (by rfl) (by omega) 4 (by omega) (Vst 10 (o := 4) [I6 (IntKind.wrap .i64 (c2 + 1))] ho4 #[Bo a, .slice (some ⟨rb, 0, none⟩) l.length c, I6 (IntKind.wrap .i64 (c0 + 1)), I6 c1, I6 (IntKind.wrap .i64 (c2 + 1)), I6 c3] ?_)
  intro w13 hw3
  replace hS := Step.trans hS (Step.mono hw3.step (fun i hi => .inl hi))
  replace hrow := hrow.step hw3.step (fun k hk1 hk2 (hF : k = pp) => by omega)
  replace hbk := BksW.step hbk hw3.step (fun p hp hF => by have h9 := hbl _ p hp; have h8 := hbp _ p hp; have hF : p.2 = pp := hF; omega)
  replace hmk1 := hmk1.step hw3.step (show ¬ w3.heap.size = pp by omega)
  have ho5 := hw3.own
  refine Ve (Vn (Vrp (VC_ret ?_)))
  refine VrM (I6 2) (Ds := [w3.heap.size]) ⟨hmk1, (by simp), trivial⟩ ?_
  intro w14 hq1
  replace hq1 : Step (Just w3.heap.size) w13 w14 := Step.mono hq1 (fun i hi => by simpa using hi)
  replace hS := Step.transNew hS hq1 (fun i hi hF => by have hF9 : i = w3.heap.size := hF; omega)
  replace hrow := hrow.step hq1 (fun k hk1 hk2 (hF : k = w3.heap.size) => by omega)
  replace hbk := BksW.step hbk hq1 (fun p hp hF => by have h9 := hbl _ p hp; have h8 := hbp _ p hp; have hF : p.2 = w3.heap.size := hF; omega)
  replace ho5 := ho5.step hq1 (show ¬ pp = w3.heap.size by omega)
  exact ⟨congrArg (Value.int .i64) TAd6ad, ptake_done 1 hX hI hv ho5 hrow hbk hS (.inr ⟨by decide, rfl, rfl⟩)⟩
 ·intro e W _ hF _; exact hF.elim

theorem ptake_3 (pp rb c : Nat) (Y : Nat → Prop) (a : Bool) (c0 c1 c2 c3 t clp : Int) (l : List Rb) (w : World) (hX : PlX w pp Y a l rb c c0 c1 c2 c3) (hI : RlsI (l.map (·.1))) (hv : verdR t clp (l.map (·.1)) = 3) :
  CV Tryz.prog 198 #[Pt pp 0, I6 t, I6 clp] w (fun x w1 => x = I6 (polV a t clp (l.map (·.1))) ∧ Pl w1 pp Y a (rulesT t clp (l.map (·.1))) ∧ Step Y w w1) := by
 have hpp : Own w pp (polArr a rb l.length c c0 c1 c2 c3) 381 := hX.own
 have hrow := hX.row.sl
 have hbk : BksW w (takeK t clp (0) l) := by rw [takeK_zero]; exact hX.bks
 have hrl := hX.row.lt
 have hbl0 := hX.bks.lt
 have hin : ∀ k (p : Rb), p ∈ takeK t clp k l → ∃ q ∈ l, q.2 = p.2 := fun k p hp => List.mem_map.1 (by rw [← takeK_snd t clp l k]; exact List.mem_map_of_mem hp)
 have hbl : ∀ k (p : Rb), p ∈ takeK t clp k l → p.2 < w.heap.size := fun k p hp => by obtain ⟨q, hq, h8⟩ := hin k p hp; have h7 := hbl0 q hq; omega
 have hbp : ∀ k (p : Rb), p ∈ takeK t clp k l → p.2 ≠ pp := fun k p hp => by obtain ⟨q, hq, h8⟩ := hin k p hp; have h7 := (hX.ne_b q hq).1; omega
 have hpl := hpp.lt
 have hnrp := hX.ne_row
 have hlen : l.length < 1152921504606846976 := by have h9 := hI.1; rw [List.length_map] at h9; omega
 have hbi : ∀ y ∈ l, BkI y.1.b := fun y hy => hI.2 _ (List.mem_map_of_mem hy)
 have hS : Step (polF pp l) w w := Step.refl _ _
 have hSn : Step No w w := Step.refl _ _
 refine VCm Tryz.func198 (Vs (Vr ?_))
 have hzs1 := hSn.size
 have hzl1 := hpp.lt
 have hzk1 := hrl
 refine Vx 0 3 #[I6 t] ?_
 intro b1 w1 hn1
 replace hSn := Step.trans hSn (hn1.step No)
 replace hS := stepP_no hS (hn1.step No)
 replace hpp := hpp.no (hn1.step No)
 replace hrow := hrow.step (hn1.step No) (fun k hk1 hk2 hF => hF)
 replace hbk := BksW.no hbk (hn1.step No)
 replace hrl := Nat.lt_of_lt_of_le hrl (hn1.step No).size
 have ho1 := hn1.own
 have hzhn1 := hn1.size
 have hqhn1 := hn1.eqb
 refine Ve (Vn (Vs (Vrp (Vf (VC_skip (Vn (Vs (Vr (Vl 1 ho1 (Vp 3 ?_))))))))))
 have hzs2 := hSn.size
 have hzl2 := hpp.lt
 have hzl3 := ho1.lt
 refine Vc 3 Tryz.call250 ((verdict_any pp rb c Y a c0 c1 c2 c3 t clp l _ (hX.step hSn (fun _ _ h9 => h9)) hI).mono (fun x w1 h9 => ⟨h9.1.trans (by rw [hv]), h9.2⟩ : ∀ x w1, _ → x = I6 3 ∧ Step No _ w1)) ?_
 rintro _ w2 ⟨rfl, hc1⟩
 replace hS := stepP_no hS hc1
 replace hpp := hpp.no hc1
 replace hrow := hrow.step hc1 (fun k hk1 hk2 hF => hF)
 replace hbk := BksW.no hbk hc1
 replace hrl := Nat.lt_of_lt_of_le hrl (hc1).size
 replace ho1 := ho1.no hc1
 refine Ve (Vn (Vrp (Vs (Vrp (Vf (VC_skip (Vn (Vs (Vrp (Vf (VC_skip (Vn (Vs (Vs (Vr ?_)))))))))))))))
 refine Ve (Vn (Vf (VC_skip (Vn (Vs (Vd 8 [(3, Pt pp 2), (4, I6 c0)] [3, 4] ?_ ?_))))))
 ·intro w3 hs1
  replace hS := stepP_no hS hs1
  replace hpp := hpp.no hs1
  replace hrow := hrow.step hs1 (fun k hk1 hk2 hF => hF)
  replace hbk := BksW.no hbk hs1
  replace hrl := Nat.lt_of_lt_of_le hrl (hs1).size
  replace ho1 := ho1.no hs1
  exact ⟨Dv (Pt pp 2) (Det1_index (d := 44) (b := pp) (o := 2) (len := 4) (sz := 1) (m := 0) (by kernel_rfl) (by kernel_rfl) 0 (by rfl) (by omega) 2 (by omega)), Dl hpp, trivial⟩
 intro w3 hs1
 replace hS := stepP_no hS hs1
 replace hpp := hpp.no hs1
 replace hrow := hrow.step hs1 (fun k hk1 hk2 hF => hF)
 replace hbk := BksW.no hbk hs1
 replace hrl := Nat.lt_of_lt_of_le hrl (hs1).size
 replace ho1 := ho1.no hs1
 refine VL_index (d := 49) (b := pp) (o := 2) (len := 4) (sz := 1) (m := 0) (by kernel_rfl) (by kernel_rfl) 0 (by rfl) (by omega) 2 (by omega) (Vst 9 (o := 2) [I6 (IntKind.wrap .i64 (c0 + 1))] hpp #[Bo a, .slice (some ⟨rb, 0, none⟩) l.length c, I6 (IntKind.wrap .i64 (c0 + 1)), I6 c1, I6 c2, I6 c3] ?_)
 intro w4 hw1
 replace hS := Step.trans hS (Step.mono hw1.step (fun i hi => .inl hi))
 replace hrow := hrow.step hw1.step (fun k hk1 hk2 (hF : k = pp) => by omega)
 replace hbk := BksW.step hbk hw1.step (fun p hp hF => by have h9 := hbl _ p hp; have h8 := hbp _ p hp; have hF : p.2 = pp := hF; omega)
 replace hrl := Nat.lt_of_lt_of_le hrl (hw1.step).size
 replace ho1 := ho1.step hw1.step (show ¬ b1 = pp by omega)
 have ho2 := hw1.own
 have hzhw1 := hw1.same
 refine Ve (Vn (Vs (Vd 9 [(4, Pt pp 5), (5, I6 c3)] [4, 5] ?_ ?_)))
 ·intro w5 hs2
  replace hS := stepP_no hS hs2
  replace hrow := hrow.step hs2 (fun k hk1 hk2 hF => hF)
  replace hbk := BksW.no hbk hs2
  replace hrl := Nat.lt_of_lt_of_le hrl (hs2).size
  replace ho1 := ho1.no hs2
  replace ho2 := ho2.no hs2
  exact ⟨Dv (Pt pp 5) (Det1_index (d := 54) (b := pp) (o := 2) (len := 4) (sz := 1) (m := 3) (by kernel_rfl) (by kernel_rfl) 3 (by rfl) (by omega) 5 (by omega)), Dl ho2, trivial⟩
 intro w5 hs2
 replace hS := stepP_no hS hs2
 replace hrow := hrow.step hs2 (fun k hk1 hk2 hF => hF)
 replace hbk := BksW.no hbk hs2
 replace hrl := Nat.lt_of_lt_of_le hrl (hs2).size
 replace ho1 := ho1.no hs2
 replace ho2 := ho2.no hs2
 refine VL_index (d := 59) (b := pp) (o := 2) (len := 4) (sz := 1) (m := 3) (by kernel_rfl) (by kernel_rfl) 3 (by rfl) (by omega) 5 (by omega) (Vst 10 (o := 5) [I6 (IntKind.wrap .i64 (c3 + 1))] ho2 #[Bo a, .slice (some ⟨rb, 0, none⟩) l.length c, I6 (IntKind.wrap .i64 (c0 + 1)), I6 c1, I6 c2, I6 (IntKind.wrap .i64 (c3 + 1))] ?_)
 intro w6 hw2
 replace hS := Step.trans hS (Step.mono hw2.step (fun i hi => .inl hi))
 replace hrow := hrow.step hw2.step (fun k hk1 hk2 (hF : k = pp) => by omega)
 replace hbk := BksW.step hbk hw2.step (fun p hp hF => by have h9 := hbl _ p hp; have h8 := hbp _ p hp; have hF : p.2 = pp := hF; omega)
 replace hrl := Nat.lt_of_lt_of_le hrl (hw2.step).size
 replace ho1 := ho1.step hw2.step (show ¬ b1 = pp by omega)
 have ho3 := hw2.own
 have hzhw2 := hw2.same
 refine Ve (Vn (Vrp (VC_ret ?_)))
 have hzk2 := hrl
 have hzl4 := ho1.lt
 have hzl5 := ho3.lt
 refine VrM (I6 3) (Ds := []) trivial ?_
 intro w7 hq1
 replace hq1 : Step No w6 w7 := Step.mono hq1 (fun i hi => by simp at hi)
 replace hS := stepP_no hS hq1
 replace hrow := hrow.step hq1 (fun k hk1 hk2 hF => hF)
 replace hbk := BksW.no hbk hq1
 replace hrl := Nat.lt_of_lt_of_le hrl (hq1).size
 replace ho1 := ho1.no hq1
 replace ho3 := ho3.no hq1
 exact ⟨congrArg (Value.int .i64) TAd6ad, ptake_done clp hX hI hv ho3 hrow hbk hS (.inl ⟨rfl, rfl⟩)⟩

theorem ptake_any {w : World} {pp : Nat} {Y : Nat → Prop} {a : Bool} {rs : List Rl} (t clp : Int) (h : Pl w pp Y a rs) : CV Tryz.prog 198 #[.pointer (some ⟨pp, 0, none⟩), .int .i64 t, .int .i64 clp] w fun x w1 => x = .int .i64 (polV a t clp rs) ∧ Pl w1 pp Y a (rulesT t clp rs) ∧ Step Y w w1 := by
  obtain ⟨hI, l, rb, c, c0, c1, c2, c3, rfl, hX⟩ := h
  rcases verdR_cases t clp (l.map (·.1)) with hv | hv | hv
  · exact ptake_1 pp rb c Y a c0 c1 c2 c3 t clp l w hX hI hv
  · exact ptake_2 pp rb c Y a c0 c1 c2 c3 t clp l w hX hI hv
  · exact ptake_3 pp rb c Y a c0 c1 c2 c3 t clp l w hX hI hv
end Go.Proofs.YtcablikikkmfjaaGreat
end

section
/- Drawn regions: rows of flat elements whose order is open. -/
set_option linter.unusedVariables false
set_option linter.unusedSimpArgs false
namespace Go.Vc
open Go.RowKit
section
variable {r : Option Nat} {n : Nat} {ds : List Deferred} {P : Program} {ops : Array Oper} {Q : Exit → Act → World → Prop} {l : List (Nat × Value)} {w : World}
end
end Go.Vc
end
