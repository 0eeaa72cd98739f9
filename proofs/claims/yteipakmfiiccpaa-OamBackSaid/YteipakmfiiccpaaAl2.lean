/- Layer 21: more of plain Lean: arguments, ends of walks. -/
import Derived.Test.YteipakmfiiccpaaAl1
set_option linter.unusedVariables false
set_option linter.unusedSimpArgs false
namespace Go.Proofs.Yteipakmfiiccpaa
open Go.Vc

theorem om_place (o : Om) (j : Nat) (hj : j < 16) : (omL o).toArray[4 + j]? = (pl o.p)[j]? := by
  match j, hj with
  | 0, _ => rfl
  | 1, _ => rfl
  | 2, _ => rfl
  | 3, _ => rfl
  | 4, _ => rfl
  | 5, _ => rfl
  | 6, _ => rfl
  | 7, _ => rfl
  | 8, _ => rfl
  | 9, _ => rfl
  | 10, _ => rfl
  | 11, _ => rfl
  | 12, _ => rfl
  | 13, _ => rfl
  | 14, _ => rfl
  | 15, _ => rfl
  | k + 16, hk => exact absurd hk (by omega)
theorem pl_ones (j : Nat) (hj : j < 16) : (pl ones)[j]? = some (.int .u8 255) := by
  match j, hj with
  | 0, _ => rfl
  | 1, _ => rfl
  | 2, _ => rfl
  | 3, _ => rfl
  | 4, _ => rfl
  | 5, _ => rfl
  | 6, _ => rfl
  | 7, _ => rfl
  | 8, _ => rfl
  | 9, _ => rfl
  | 10, _ => rfl
  | 11, _ => rfl
  | 12, _ => rfl
  | 13, _ => rfl
  | 14, _ => rfl
  | 15, _ => rfl
  | k + 16, hk => exact absurd hk (by omega)
theorem equal_pl (ba oa ca bb ob cb : Nat) (p q : Nat → Int) (w : World) (hp : inByte p) (hq : inByte q) (h1 : ∀ j, j < 16 → w.cell? ⟨ba, oa + j, none⟩ = (pl p)[j]?) (h2 : ∀ j, j < 16 → w.cell? ⟨bb, ob + j, none⟩ = (pl q)[j]?) :
    CV Try.prog 27 #[.slice (some ⟨ba, oa, none⟩) 16 ca, .slice (some ⟨bb, ob, none⟩) 16 cb] w fun x w1 => x = .bool (plEq p q) ∧ Step No w w1 := by
  refine (equal_any ba oa 16 ca bb ob 16 cb (lp p) (lp q) w rfl rfl h1 h2).mono ?_
  rintro x w1 ⟨rfl, h⟩
  exact ⟨by rw [str_eq hp hq], h⟩

/-! ### Got -/
theorem got_no {s : Al} {t : Int} {o : Om} (h : rightO o = false) : gotA s t o = s ∧ gotV s o = zeroO ∧ gotB s o = false := by
  refine ⟨?_, ?_, ?_⟩
  · unfold gotA; rw [h]; rfl
  · unfold gotV; rw [h]; rfl
  · unfold gotB; rw [h]; rfl
theorem got_yes {s : Al} {o : Om} (h : rightO o = true) : gotV s o = replyV o s.here ∧ gotB s o = replyB o s.here := by
  refine ⟨?_, ?_⟩
  · unfold gotV; rw [if_pos h]
  · unfold gotB; rw [h]; rfl
theorem wrap_hw {s : Al} (hw : waits s) (t : Int) : IntKind.wrap .i64 (held t + s.wt) = held t + s.wt := by
  have h := held_bd t
  unfold waits at hw
  exact wrap_i64 _ (by omega) (by omega)
theorem gotA_0 {s : Al} {t : Int} {o : Om} (h : rightO o = true) (hk : o.k = 0) (hw : waits s) : alC ⟨IntKind.wrap .i64 (held t + s.wt), s.bh, s.here, s.wt, s.dn⟩ = alC (gotA s t o) := by
  rw [wrap_hw hw]; unfold gotA; rw [if_pos h, if_pos hk]
theorem gotA_1 {s : Al} {t : Int} {o : Om} (h : rightO o = true) (hk0 : o.k ≠ 0) (hk : o.k = 1) (hw : waits s) : alC ⟨s.ah, IntKind.wrap .i64 (held t + s.wt), s.here, s.wt, s.dn⟩ = alC (gotA s t o) := by
  rw [wrap_hw hw]; unfold gotA; rw [if_pos h, if_neg hk0, if_pos hk]
theorem gotA_4 {s : Al} {t : Int} {o : Om} (h : rightO o = true) (hk0 : o.k ≠ 0) (hk1 : o.k ≠ 1) (hk : o.k = 4) : alC (userA s) = alC (gotA s t o) := by
  unfold gotA; rw [if_pos h, if_neg hk0, if_neg hk1, if_pos hk]; rfl
theorem gotA_not {s : Al} {t : Int} {o : Om} (hk0 : o.k ≠ 0) (hk1 : o.k ≠ 1) (hk : o.k ≠ 4) : gotA s t o = s := by
  unfold gotA; simp [hk0, hk1, hk]
theorem gotA_no' {s : Al} {t : Int} {o : Om} (h : rightO o = true) (hk0 : o.k ≠ 0) (hk1 : o.k ≠ 1) (hk : o.k ≠ 4) : alC s = alC (gotA s t o) := by rw [gotA_not hk0 hk1 hk]

/-! ### Sends -/
def ais (s : Al) : Om := ⟨0, 0, false, 0, s.here, zp⟩
def rdi (s : Al) : Om := ⟨1, 0, false, 0, s.here, zp⟩
def chk : Om := ⟨4, 0, false, 0, zp, zp⟩
def sendL (s : Al) (t : Int) : List Om := if s.dn = true then [ais s, rdi s] else if aheadA s t = true then [rdi s] else [chk]
theorem send_1 {s : Al} {t : Int} (h : s.dn = true) : sendL s t = [ais s, rdi s] := by unfold sendL; rw [if_pos h]
theorem send_2 {s : Al} {t : Int} (h : s.dn = false) (h2 : aheadA s t = true) : sendL s t = [rdi s] := by unfold sendL; rw [if_neg (by rw [h]; decide), if_pos h2]
theorem send_3 {s : Al} {t : Int} (h : s.dn = false) (h2 : aheadA s t = false) : sendL s t = [chk] := by unfold sendL; rw [if_neg (by rw [h]; decide), if_neg (by rw [h2]; decide)]
def omsC (l : List Om) : Array Value := (l.flatMap omL).toArray

/-! ### What arguments read as -/
def u8s : List Leaf := rep 16 [.int .u8]
def omLs : List Leaf := [.int .i64, .int .u8, .bool, .int .u32] ++ (u8s ++ u8s)
def opLs : List Leaf := [.int .i64, .int .i64] ++ omLs
def intOf : Value → Int
  | .int _ n => n
  | _ => 0
theorem u8_of {vs : List Value} (k : Nat) : CellsW vs (rep k [.int .u8]) → vs = (List.range k).map (fun i => Value.int .u8 (intOf (vs.getD i undef))) ∧ ∀ i, 0 ≤ intOf (vs.getD i undef) ∧ intOf (vs.getD i undef) < 256 := by
  induction k generalizing vs with
  | zero =>
    intro h
    cases vs with
    | nil => exact ⟨rfl, fun i => by simp [intOf, undef]⟩
    | cons => exact h.elim
  | succ k ih =>
    intro h
    cases vs with
    | nil => exact h.elim
    | cons v vs =>
      obtain ⟨⟨a, ha, hw⟩, h2⟩ := h
      obtain ⟨h3, h4⟩ := ih h2
      subst ha
      refine ⟨?_, fun i => ?_⟩
      · rw [List.range_succ_eq_map, List.map_cons, List.map_map]
        simp only [List.getD_cons_zero, intOf, Function.comp_def, List.getD_cons_succ]
        exact congrArg _ h3
      · cases i with
        | zero =>
          simp only [List.getD_cons_zero, intOf]
          have h0 : IntKind.u8.min = 0 := rfl
          have h1 : IntKind.u8.max = 255 := rfl
          simp [Lit.wf] at hw
          omega
        | succ i => simpa using h4 i
theorem pl_of {vs : List Value} (h : CellsW vs u8s) : ∃ p, vs = pl p ∧ inByte p := by
  obtain ⟨h1, h2⟩ := u8_of 16 h
  exact ⟨fun i => intOf (vs.getD i undef), h1, h2⟩
theorem cw_split {vs : List Value} {ka kb : List Leaf} (h : CellsW vs (ka ++ kb)) : ∃ xs ys, vs = xs ++ ys ∧ CellsW xs ka ∧ CellsW ys kb := by
  induction ka generalizing vs with
  | nil => exact ⟨[], vs, rfl, trivial, h⟩
  | cons k ks ih =>
    cases vs with
    | nil => exact h.elim
    | cons v vs =>
      obtain ⟨xs, ys, rfl, h1, h2⟩ := ih h.2
      exact ⟨v :: xs, ys, rfl, ⟨h.1, h1⟩, h2⟩
theorem om_of {vs : List Value} (h : CellsW vs omLs) : ∃ o : Om, vs = omL o ∧ inByte o.p ∧ inByte o.s := by
  obtain ⟨xs, ys, rfl, hx, hy⟩ := cw_split h
  obtain ⟨ps, ss, rfl, hp, hs⟩ := cw_split hy
  obtain ⟨p, rfl, hp'⟩ := pl_of hp
  obtain ⟨q, rfl, hq'⟩ := pl_of hs
  obtain ⟨a, b, c, d, rfl⟩ : ∃ a b c d, xs = [a, b, c, d] := by
    have := hx.length
    rcases xs with _ | ⟨c0, _ | ⟨c1, _ | ⟨c2, _ | ⟨c3, _ | ⟨c4, r⟩⟩⟩⟩⟩ <;> first | exact ⟨_, _, _, _, rfl⟩ | (simp at this)
  obtain ⟨⟨a0, h0, u0⟩, ⟨a1, h1, u1⟩, ⟨a2, h2⟩, ⟨a3, h3, u3⟩, u4⟩ := hx
  clear u0 u1 u3 u4
  subst h0; subst h1; subst h2; subst h3
  exact ⟨⟨a0, a1, a2, a3, p, q⟩, rfl, hp', hq'⟩
theorem op_of {vs : List Value} (h : CellsW vs opLs) : ∃ x : OpA, vs = .int .i64 x.do_ :: .int .i64 x.t :: omL x.o ∧ inByte x.o.p := by
  obtain ⟨xs, ys, rfl, hx, hy⟩ := cw_split h
  obtain ⟨o, rfl, ho, _⟩ := om_of hy
  obtain ⟨a, b, rfl⟩ : ∃ a b, xs = [a, b] := by
    have := hx.length
    rcases xs with _ | ⟨c0, _ | ⟨c1, _ | ⟨c2, r⟩⟩⟩ <;> first | exact ⟨_, _, rfl⟩ | (simp at this)
  obtain ⟨⟨a0, h0, u0⟩, ⟨a1, h1, u1⟩, u4⟩ := hx
  clear u0 u1 u4
  subst h0; subst h1
  exact ⟨⟨a0, a1, o⟩, rfl, ho⟩
def opL (x : OpA) : List Value := .int .i64 x.do_ :: .int .i64 x.t :: omL x.o
def OpsB (w : World) (b o n : Nat) (q : Nat → OpA) : Prop := ∀ i, i < n → ∀ j, j < 38 → w.cell? ⟨b, o + i * 38 + j, none⟩ = (opL (q i))[j]?
def OpsAt (w : World) (A : Option Addr) (n : Nat) (q : Nat → OpA) : Prop := (∀ i, inByte (q i).o.p) ∧ (0 < n → ∃ b o, A = some ⟨b, o, none⟩ ∧ OpsB w b o n q)
theorem OpsAt.no {w w1 : World} {A : Option Addr} {n : Nat} {q : Nat → OpA} (h : OpsAt w A n q) (hs : Step No w w1) : OpsAt w1 A n q := by
  refine ⟨h.1, fun hn => ?_⟩
  obtain ⟨b, o, rfl, hb⟩ := h.2 hn
  refine ⟨b, o, rfl, fun i hi j hj => ?_⟩
  have := hb i hi j hj
  rw [List.getElem?_eq_getElem (by simpa [opL, omL] using hj)] at this ⊢
  exact hs.cell id this
theorem OpsAt.of_flat {w : World} {A : Option Addr} {n : Nat} (h : FlatSl w A n 38 opLs) : ∃ q, OpsAt w A n q := by
  by_cases hn : 0 < n
  · obtain ⟨b, o, rfl, hb, hc⟩ := h hn
    have hex : ∀ i, ∃ q : OpA, inByte q.o.p ∧ (i < n → ∀ j, j < 38 → w.cell? ⟨b, o + i * 38 + j, none⟩ = (opL q)[j]?) := by
      intro i
      by_cases hi : i < n
      · obtain ⟨cs, hw, hr⟩ := hc i hi
        obtain ⟨x, rfl, hx⟩ := op_of hw
        exact ⟨x, hx, fun _ => hr⟩
      · exact ⟨⟨0, 0, zeroO⟩, inByte_zp, fun h => absurd h hi⟩
    obtain ⟨q, hq⟩ := Classical.axiomOfChoice hex
    exact ⟨q, fun i => (hq i).1, fun _ => ⟨b, o, rfl, fun i hi => (hq i).2 hi⟩⟩
  · exact ⟨fun _ => ⟨0, 0, zeroO⟩, fun _ => inByte_zp, fun h0 => absurd h0 hn⟩
theorem OpsB.do_ {w w1 : World} {b o n : Nat} {q : Nat → OpA} (h : OpsB w b o n q) (hs : Step No w w1) {P : Program} {t : TypeId} (ht : oneB P t = true) (i : Nat) (hi : i < n) : Loads P t w1 ⟨b, o + i * 38, none⟩ (.int .i64 (q i).do_) :=
  Loads.one ht (hs.cell id (h i hi 0 (by decide)))
theorem OpsB.t {w w1 : World} {b o n : Nat} {q : Nat → OpA} (h : OpsB w b o n q) (hs : Step No w w1) {P : Program} {t : TypeId} (ht : oneB P t = true) (i : Nat) (hi : i < n) : Loads P t w1 ⟨b, o + i * 38 + 1, none⟩ (.int .i64 (q i).t) :=
  Loads.one ht (hs.cell id (h i hi 1 (by decide)))
theorem OpsB.o {w w1 : World} {b o n : Nat} {q : Nat → OpA} (h : OpsB w b o n q) (hs : Step No w w1) {P : Program} {t : TypeId} (ht : aggB P t = some 36) (i : Nat) (hi : i < n) : Loads P t w1 ⟨b, o + i * 38 + 2, none⟩ (.agg (omL (q i).o).toArray) := by
  refine Loads.cells ht _ rfl fun j hj => ?_
  rw [add_none]
  have := h i hi (2 + j) (by omega)
  rw [← Nat.add_assoc] at this
  have e : (opL (q i))[2 + j]? = (omL (q i).o).toArray[j]? := by rw [Nat.add_comm]; simp [opL]
  rw [e] at this
  rw [Array.getElem?_eq_getElem (by simpa [omL] using hj)] at this ⊢
  exact hs.cell id this
theorem step_1 {s : Al} {x : OpA} (h : x.do_ = 1) : alC (gotA s x.t x.o) = alC (stepA s x) := by unfold stepA; rw [if_pos h]
theorem step_2 {s : Al} {x : OpA} (h1 : x.do_ ≠ 1) (h : x.do_ = 2) : alC (userA s) = alC (stepA s x) := by unfold stepA; rw [if_neg h1, if_pos h]
theorem step_3 {s : Al} {x : OpA} (h1 : x.do_ ≠ 1) (h2 : x.do_ ≠ 2) (h : x.do_ = 3 ∨ x.do_ = 4) : alC (downA s (x.do_ == 3)) = alC (stepA s x) := by unfold stepA; rw [if_neg h1, if_neg h2, if_pos h]
theorem step_0 {s : Al} {x : OpA} (h1 : x.do_ ≠ 1) (h2 : x.do_ ≠ 2) (h3 : x.do_ ≠ 3) (h4 : x.do_ ≠ 4) : alC s = alC (stepA s x) := by unfold stepA; rw [if_neg h1, if_neg h2, if_neg (by omega)]
end Go.Proofs.Yteipakmfiiccpaa
