/- Layer 15: elements as they lie in memory, and what they tell. -/
import Derived.Test.YtejpcmjokamdcaaVc19
import Derived.Test.YtejpcmjokamdcaaBy0
set_option linter.unusedVariables false
set_option linter.unusedSimpArgs false
namespace Go.Proofs.Ytejpcmjokamdcaa
open Go.Vc
/-- An element: its number, and where its body lies. -/
structure IeV where
  id : Int
  A : Option Addr
  n : Nat
  c : Nat
  bs : List Int
abbrev IeD := Int × List Int
def IeV.val (x : IeV) : IeD := (x.id, x.bs)
def vals (l : List IeV) : List IeD := l.map IeV.val
def ieC (x : IeV) : List Value := [.int .u8 x.id, .slice x.A x.n x.c]
def ieL (l : List IeV) : List Value := l.flatMap ieC
theorem ieL_nil : ieL [] = [] := rfl
theorem ieL_app (l l' : List IeV) : ieL (l ++ l') = ieL l ++ ieL l' := by simp [ieL]
theorem ieL_one (x : IeV) : ieL [x] = ieC x := by simp [ieL]
theorem ieL_len (l : List IeV) : (ieL l).length = l.length * 2 := by
  induction l with
  | nil => rfl
  | cons x r ih => rw [show ieL (x :: r) = ieC x ++ ieL r from List.flatMap_cons, List.length_append, ih, List.length_cons]; simp [ieC]; omega
theorem ieL_get {l : List IeV} {i : Nat} {x : IeV} (h : l[i]? = some x) : (ieL l)[i * 2]? = some (.int .u8 x.id) ∧ (ieL l)[i * 2 + 1]? = some (.slice x.A x.n x.c) := by
  induction l generalizing i with
  | nil => simp at h
  | cons y r ih =>
    rw [show ieL (y :: r) = ieC y ++ ieL r from List.flatMap_cons]
    cases i with
    | zero => simp at h; subst h; exact ⟨rfl, rfl⟩
    | succ i =>
      simp at h
      have := ih h
      rw [show (i + 1) * 2 = i * 2 + 2 by omega, show i * 2 + 2 + 1 = (i * 2 + 1) + 2 by omega]
      exact ⟨by simpa [ieC] using this.1, by simpa [ieC] using this.2⟩
theorem ieL_take (l : List IeV) (k : Nat) : (ieL l).take (k * 2) = ieL (l.take k) := by
  induction l generalizing k with
  | nil => simp [ieL]
  | cons y r ih =>
    cases k with
    | zero => simp [ieL]
    | succ k => rw [show ieL (y :: r) = ieC y ++ ieL r from List.flatMap_cons, List.take_succ_cons, show ieL (y :: r.take k) = ieC y ++ ieL (r.take k) from List.flatMap_cons, ← ih, List.take_append, List.take_of_length_le (by simp [ieC]; omega)]; congr 2; simp [ieC]; omega
theorem ieL_drop (l : List IeV) (k : Nat) : (ieL l).drop (k * 2) = ieL (l.drop k) := by
  induction l generalizing k with
  | nil => simp [ieL]
  | cons y r ih =>
    cases k with
    | zero => simp [ieL]
    | succ k => rw [show ieL (y :: r) = ieC y ++ ieL r from List.flatMap_cons, List.drop_succ_cons, ← ih, List.drop_append, List.drop_of_length_le (by simp [ieC]; omega), List.nil_append]; congr 1; simp [ieC]; omega
theorem ieL_ones {l : List IeV} : ∀ u ∈ ieL l, oneC u = true := by
  intro u hu
  obtain ⟨x, _, hx⟩ := List.mem_flatMap.1 hu
  simp only [ieC, List.mem_cons, List.mem_nil_iff, or_false] at hx
  rcases hx with rfl | rfl <;> rfl
/-- An element's body lies between two bounds. -/
structure IeOk (w : World) (lo hi : Nat) (x : IeV) : Prop where
  len : x.bs.length = x.n
  cap : x.n ≤ x.c
  sl : Sl2 w lo hi x.A (iL .u8 x.bs)
def IeB (x : IeV) : Prop := (0 ≤ x.id ∧ x.id < 256) ∧ Bytes x.bs
structure Ies (w : World) (lo hi : Nat) (A : Option Addr) (l : List IeV) : Prop where
  sl : Sl2 w lo hi A (ieL l)
  all : ∀ x ∈ l, IeOk w lo hi x
section
variable {F : Nat → Prop} {w w' : World} {lo hi lo' hi' : Nat} {A : Option Addr} {l : List IeV} {x : IeV} {P : Program}
theorem IeOk.step (h : IeOk w lo hi x) (hs : Step F w w') (hF : ∀ k, lo ≤ k → k < hi → ¬ F k) : IeOk w' lo hi x := ⟨h.len, h.cap, h.sl.step hs hF⟩
theorem IeOk.mono (h : IeOk w lo hi x) (h1 : lo' ≤ lo) (h2 : hi ≤ hi') : IeOk w lo' hi' x := ⟨h.len, h.cap, h.sl.mono h1 h2⟩
theorem Ies.step (h : Ies w lo hi A l) (hs : Step F w w') (hF : ∀ k, lo ≤ k → k < hi → ¬ F k) : Ies w' lo hi A l := ⟨h.sl.step hs hF, fun x hx => (h.all x hx).step hs hF⟩
theorem Ies.no (h : Ies w lo hi A l) (hs : Step No w w') : Ies w' lo hi A l := h.step hs fun _ _ _ => id
theorem Ies.mono (h : Ies w lo hi A l) (h1 : lo' ≤ lo) (h2 : hi ≤ hi') : Ies w lo' hi' A l := ⟨h.sl.mono h1 h2, fun x hx => (h.all x hx).mono h1 h2⟩
theorem Ies.nil : Ies w lo hi A [] := ⟨fun h => by simp [ieL] at h, fun x hx => by simp at hx⟩
theorem Ies.open (h : Ies w lo hi A l) (h0 : 0 < l.length) : ∃ b o, A = some ⟨b, o, none⟩ ∧ b < hi := by
  obtain ⟨b, o, hA, _, hb, _⟩ := h.sl (by rw [ieL_len]; omega)
  exact ⟨b, o, hA, hb⟩
theorem Ies.body {i : Nat} (h : Ies w lo hi A l) (hx : l[i]? = some x) : x.bs.length = x.n ∧ x.n ≤ x.c ∧ Sl w hi x.A (iL .u8 x.bs) :=
  have := h.all x (List.mem_of_getElem? hx)
  ⟨this.len, this.cap, this.sl.sl⟩
theorem Ies.ld {b o i : Nat} {t : TypeId} (h : Ies w lo hi (some ⟨b, o, none⟩) l) (ht : aggB P t = some 2) (hx : l[i]? = some x) : Loads P t w ⟨b, o + i * 2, none⟩ (.agg #[.int .u8 x.id, .slice x.A x.n x.c]) := by
  have hg := ieL_get hx
  have hs := h.sl.sl
  refine Loads.cells ht _ rfl fun j hj => ?_
  rw [add_none]
  match j, hj with
  | 0, _ => exact hs.get _ _ hg.1
  | 1, _ => rw [Nat.add_assoc]; exact hs.get _ _ hg.2
theorem Ies.ld0 {b o i : Nat} {t : TypeId} (h : Ies w lo hi (some ⟨b, o, none⟩) l) (ht : oneB P t = true) (hx : l[i]? = some x) : Loads P t w ⟨b, o + i * 2, none⟩ (.int .u8 x.id) := h.sl.sl.ld ht _ (ieL_get hx).1
theorem Ies.ld1 {b o i : Nat} {t : TypeId} (h : Ies w lo hi (some ⟨b, o, none⟩) l) (ht : oneB P t = true) (hx : l[i]? = some x) : Loads P t w ⟨b, o + i * 2 + 1, none⟩ (.slice x.A x.n x.c) := by
  rw [Nat.add_assoc]; exact h.sl.sl.ld ht _ (ieL_get hx).2
end
/-- Elements as a row of one's own, their bodies rows, too. -/
structure Ier (w : World) (base : Nat) (e eB : TypeId) (A : Option Addr) (n c : Nat) (l : List IeV) : Prop where
  row : RwS w 2 base e A n c (ieL l)
  len : l.length = n
  body : ∀ x ∈ l, Rw w base eB x.A x.n x.c (iL .u8 x.bs)
section
variable {F : Nat → Prop} {w w' : World} {base n c : Nat} {e eB : TypeId} {A : Option Addr} {l : List IeV} {x : IeV} {P : Program}
theorem Ier.nil (w : World) (base : Nat) (e eB : TypeId) : Ier w base e eB none 0 0 [] := ⟨RwS.nil w 2 base e, rfl, fun x hx => by simp at hx⟩
theorem Ier.step (h : Ier w base e eB A n c l) (hs : Step F w w') (hF : ∀ k, base ≤ k → ¬ F k) : Ier w' base e eB A n c l := ⟨h.row.step hs hF, h.len, fun x hx => (h.body x hx).step hs hF⟩
theorem Ier.no (h : Ier w base e eB A n c l) (hs : Step No w w') : Ier w' base e eB A n c l := h.step hs fun _ _ => id
theorem Ier.low {base' : Nat} (h : Ier w base e eB A n c l) (hb : base' ≤ base) : Ier w base' e eB A n c l := ⟨h.row.low hb, h.len, fun x hx => (h.body x hx).low hb⟩
theorem Ier.push {A' : Option Addr} {c' : Nat} (h : Ier w base e eB A n c l) (hne : eB ≠ e) (hx : Rw w base eB x.A x.n x.c (iL .u8 x.bs)) (hs : Step (ownB A) w w') (hr : RwS w' 2 base e A' (n + 1) c' (ieL l ++ ieC x)) : Ier w' base e eB A' (n + 1) c' (l ++ [x]) := by
  refine ⟨by rw [ieL_app, ieL_one]; exact hr, by simp [h.len], fun y hy => ?_⟩
  have key : ∀ y : IeV, Rw w base eB y.A y.n y.c (iL .u8 y.bs) → Rw w' base eB y.A y.n y.c (iL .u8 y.bs) := fun y hy => (RwS.keepO hy.toS hs fun k hk => RwS.apart hy.toS h.row hne k hk).to1
  rcases List.mem_append.1 hy with hy | hy
  · exact key y (h.body y hy)
  · simp at hy; subst hy; exact key y hx
theorem Ier.stepN (h : Ier w base e eB A n c l) (hs : Step F w w') (hF : ∀ k, base ≤ k → k < w.heap.size → ¬ F k) : Ier w' base e eB A n c l := ⟨h.row.stepN hs hF, h.len, fun x hx => (h.body x hx).stepN hs hF⟩
structure IerUb (A : Option Addr) (l : List IeV) (H : Nat) : Prop where
  row : UbA A H
  body : ∀ x ∈ l, UbA x.A H
theorem Ier.ub (h : Ier w base e eB A n c l) : IerUb A l w.heap.size := ⟨h.row.ub, fun x hx => (h.body x hx).ub⟩
theorem Ier.stepU {H : Nat} (h : Ier w base e eB A n c l) (hu : IerUb A l H) (hs : Step F w w') (hF : ∀ k, base ≤ k → k < H → ¬ F k) : Ier w' base e eB A n c l := ⟨h.row.stepU hu.row hs hF, h.len, fun x hx => (h.body x hx).stepU (hu.body x hx) hs hF⟩
theorem Ier.keepT {b e' : Nat} {cs : Array Value} (h : Ier w base e eB A n c l) (ho : Own w b cs e') (hne : e ≠ e') (hneB : eB ≠ e') (hs : Step (Just b) w w') : Ier w' base e eB A n c l :=
  ⟨h.row.keepT ho hne hs, h.len, fun x hx => (h.body x hx).keepT ho hneB hs⟩
theorem Ier.ies (h : Ier w base e eB A n c l) : Ies w base w.heap.size A l :=
  ⟨h.row.sl2, fun x hx => ⟨(h.body x hx).lenI, (h.body x hx).cap, (h.body x hx).toS.sl2⟩⟩
end
/-! ### Numbers as bytes -/
def digL (v many : Nat) : List Int := (List.range many).map fun j => IntKind.wrap .u8 (((v : Nat) : Int).fdiv (2 ^ (8 * (many - 1 - j))))
theorem digL_len (v many : Nat) : (digL v many).length = many := by simp [digL]
theorem digL_succ (v j many : Nat) (h : j < many) : (digL v many).take j ++ [IntKind.wrap .u8 (((v : Nat) : Int).fdiv (2 ^ (8 * (many - 1 - j))))] = (digL v many).take (j + 1) := by
  rw [List.take_add_one]
  congr 1
  simp [digL, h]
theorem digL_bytes (v many : Nat) : Bytes (digL v many) := by
  intro x hx
  obtain ⟨j, _, rfl⟩ := List.mem_map.1 hx
  exact byte_wrap _
theorem digL_2 {n : Nat} (h : n < 256) : digL n 2 = [0, ((n : Nat) : Int)] := by
  have h1 : digL n 2 = [IntKind.wrap .u8 (((n : Nat) : Int).fdiv (2 ^ 8)), IntKind.wrap .u8 (((n : Nat) : Int).fdiv (2 ^ 0))] := rfl
  rw [h1, fdiv_nat, fdiv_nat, wrap_u8, wrap_u8, show n / 2 ^ 8 = 0 by omega, Nat.pow_zero, Nat.div_one, Nat.mod_eq_of_lt (show n < 2 ^ 8 by omega)]; rfl
/-- The number that bytes are, the first one the highest. -/
def natL (bs : List Int) : Nat := bs.foldl (fun n x => n * 256 + x.toNat) 0
def getL (bs : List Int) : Int := bs.foldl (fun n x => bOr .i64 (IntKind.wrap .i64 (n * 2 ^ 8)) (IntKind.wrap .i64 x)) 0
def numL (bs : List Int) : Int := bs.foldl (fun n x => IntKind.wrap .i64 (IntKind.wrap .i64 (n * 256) + IntKind.wrap .i64 x)) 0
theorem getL_succ {bs : List Int} {j : Nat} (h : j < bs.length) : getL (bs.take (j + 1)) = bOr .i64 (IntKind.wrap .i64 (getL (bs.take j) * 2 ^ 8)) (IntKind.wrap .i64 (bs.getD j 0)) := by
  unfold getL
  rw [List.take_add_one, List.getElem?_eq_getElem h, List.foldl_append]
  simp only [Option.toList_some, List.foldl_cons, List.foldl_nil, List.getD, List.getElem?_eq_getElem h, Option.getD_some]
theorem numL_succ {bs : List Int} {j : Nat} (h : j < bs.length) : numL (bs.take (j + 1)) = IntKind.wrap .i64 (IntKind.wrap .i64 (numL (bs.take j) * 256) + IntKind.wrap .i64 (bs.getD j 0)) := by
  unfold numL
  rw [List.take_add_one, List.getElem?_eq_getElem h, List.foldl_append]
  simp only [Option.toList_some, List.foldl_cons, List.foldl_nil, List.getD, List.getElem?_eq_getElem h, Option.getD_some]
theorem natL_lt : ∀ (bs : List Int) (a : Nat), Bytes bs → bs.foldl (fun n x => n * 256 + x.toNat) a < (a + 1) * 256 ^ bs.length
  | [], a, _ => by simp
  | x :: r, a, h => by
    have h1 := natL_lt r (a * 256 + x.toNat) h.tail
    have h2 := h.head
    rw [List.foldl_cons, List.length_cons, Nat.pow_succ]
    refine Nat.lt_of_lt_of_le h1 ?_
    rw [Nat.mul_comm (256 ^ r.length) 256, ← Nat.mul_assoc]
    exact Nat.mul_le_mul_right _ (by omega)
theorem getL_go (f : Int → Int → Int) (hf : ∀ (a b : Nat), a < 2 ^ 48 → b < 256 → f (a : Int) (b : Int) = ((a * 256 + b : Nat) : Int)) : ∀ (bs : List Int) (a : Nat), Bytes bs → (a + 1) * 256 ^ bs.length ≤ 2 ^ 56 → bs.foldl f (a : Int) = ((bs.foldl (fun n x => n * 256 + x.toNat) a : Nat) : Int)
  | [], a, _, _ => rfl
  | x :: r, a, h, hl => by
    have h2 := h.head
    rw [List.length_cons, Nat.pow_succ] at hl
    have hp : 1 ≤ 256 ^ r.length := Nat.one_le_pow _ _ (by omega)
    have ha : (a + 1) * 256 ≤ 2 ^ 56 := by
      refine Nat.le_trans ?_ hl
      rw [Nat.mul_comm (256 ^ r.length) 256, ← Nat.mul_assoc]
      exact Nat.le_mul_of_pos_right _ hp
    obtain ⟨b, rfl⟩ : ∃ b : Nat, x = (b : Int) := ⟨x.toNat, by omega⟩
    rw [List.foldl_cons, List.foldl_cons, hf a b (by omega) (by omega)]
    refine getL_go f hf r _ h.tail (Nat.le_trans ?_ hl)
    rw [Nat.mul_comm (256 ^ r.length) 256, ← Nat.mul_assoc]
    exact Nat.mul_le_mul_right _ (by omega)
theorem getL_eq {bs : List Int} (h : Bytes bs) (hl : bs.length ≤ 6) : getL bs = ((natL bs : Nat) : Int) :=
  getL_go _ (fun a b ha hb => by
    rw [show ((a : Nat) : Int) * 2 ^ 8 = ((a * 256 : Nat) : Int) by omega, wrap_i64 _ (by omega) (by omega), wrap_i64 _ (by omega) (by omega), bOr_i64 _ _ (by omega) (by omega), or_byte _ _ hb]) bs 0 h (by
      have : 256 ^ bs.length ≤ 256 ^ 6 := Nat.pow_le_pow_right (by omega) hl
      omega)
theorem numL_eq {bs : List Int} (h : Bytes bs) (hl : bs.length ≤ 6) : numL bs = ((natL bs : Nat) : Int) :=
  getL_go _ (fun a b ha hb => by
    rw [show ((a : Nat) : Int) * 256 = ((a * 256 : Nat) : Int) by omega, wrap_i64 ((a * 256 : Nat) : Int) (by omega) (by omega), wrap_i64 ((b : Nat) : Int) (by omega) (by omega), wrap_i64 _ (by omega) (by omega)]; omega) bs 0 h (by
      have : 256 ^ bs.length ≤ 256 ^ 6 := Nat.pow_le_pow_right (by omega) hl
      omega)
theorem natL_2 {bs : List Int} (h : bs.length = 2) : natL bs = (bs.getD 0 0).toNat * 256 + (bs.getD 1 0).toNat := by
  rcases bs with _ | ⟨a, _ | ⟨b, _ | ⟨c, r⟩⟩⟩ <;> simp_all [natL]
end Go.Proofs.Ytejpcmjokamdcaa
