/- Package conns in plain Lean: a key's home. -/
import Derived.Test.YtfkahhkojlfmdaaVc5
set_option linter.unusedVariables false
set_option linter.unusedSimpArgs false
namespace Go.Proofs.Ytfkahhkojlfmdaa
open Go.Vc

theorem wrap_u32 (x : Int) : IntKind.wrap .u32 x = x % 4294967296 := by
  rfl
theorem bXor_u32 (x y : Int) : 0 ≤ bXor .u32 x y ∧ bXor .u32 x y < 4294967296 := by
  unfold bXor
  rw [wrap_u32]
  omega
def homeX (p v c : Int) : Int := bXor .u32 (IntKind.wrap .u32 ((IntKind.wrap .u32 (IntKind.wrap .i64 ((IntKind.wrap .i64 (p * 4096)) + v))) * 65536)) (IntKind.wrap .u32 ((IntKind.wrap .u32 c) * 2654435761))
/-- A key's home. -/
def homeN (p v c : Int) : Nat := ((bXor .u32 (homeX p v c) ((homeX p v c).fdiv (2 ^ 16))) % 128).toNat
theorem homeN_lt (p v c : Int) : homeN p v c < 128 := by unfold homeN; omega
theorem homeN_eq (p v c : Int) : IntKind.wrap .i64 ((bXor .u32 (homeX p v c) ((homeX p v c).fdiv (2 ^ 16))).tmod 128) = ((homeN p v c : Nat) : Int) := by
  have h := bXor_u32 (homeX p v c) ((homeX p v c).fdiv (2 ^ 16))
  unfold homeN
  generalize bXor .u32 (homeX p v c) ((homeX p v c).fdiv (2 ^ 16)) = y at *
  rw [Int.tmod_eq_emod_of_nonneg (by omega), wrap_i64 _ (by omega) (by omega)]
  omega
/-! ### The table's block -/
structure Slot where
  p : Int
  v : Int
  c : Int
  n : Int
  used : Bool
def Slot.cells (s : Slot) : List Value := [.int .i64 s.p, .int .i64 s.v, .int .i64 s.c, .int .i64 s.n, .bool s.used]
def noSlot : Slot := ⟨0, 0, 0, 0, false⟩
def noSlots : Nat → Slot := fun _ => noSlot
def cellT (s : Nat → Slot) (len room : Int) (k : Nat) : Value :=
  bif Nat.blt k 640 then (match k % 5 with | 0 => .int .i64 (s (k / 5)).p | 1 => .int .i64 (s (k / 5)).v | 2 => .int .i64 (s (k / 5)).c | 3 => .int .i64 (s (k / 5)).n | _ => .bool (s (k / 5)).used)
  else bif Nat.beq k 640 then .int .i64 len else .int .i64 room
def encT (s : Nat → Slot) (len room : Int) : Array Value := ((List.range 642).map (cellT s len room)).toArray
theorem encT_size (s : Nat → Slot) (len room : Int) : (encT s len room).size = 642 := by simp [encT]
theorem encT_get (s : Nat → Slot) (len room : Int) (k : Nat) (hk : k < 642) : (encT s len room)[k]? = some (cellT s len room k) := by
  simp [encT, List.getElem?_map, List.getElem?_range hk]
theorem cellT_slot (s : Nat → Slot) (len room : Int) (i j : Nat) (hi : i < 128) (hj : j < 5) : some (cellT s len room (i * 5 + j)) = (s i).cells[j]? := by
  unfold cellT
  rw [show Nat.blt (i * 5 + j) 640 = true from Nat.ble_eq_true_of_le (by omega), show (i * 5 + j) / 5 = i by omega, show (i * 5 + j) % 5 = j by omega]
  match j, hj with
  | 0, _ => rfl
  | 1, _ => rfl
  | 2, _ => rfl
  | 3, _ => rfl
  | 4, _ => rfl
theorem encT_slot (s : Nat → Slot) (len room : Int) (i j : Nat) (hi : i < 128) (hj : j < 5) : (encT s len room)[i * 5 + j]? = (s i).cells[j]? := by
  rw [encT_get _ _ _ _ (by omega), cellT_slot _ _ _ _ _ hi hj]
theorem encT_used (s : Nat → Slot) (len room : Int) (i : Nat) (hi : i < 128) : (encT s len room)[i * 5 + 4]? = some (.bool (s i).used) := encT_slot s len room i 4 hi (by decide)
theorem encT_len (s : Nat → Slot) (len room : Int) : (encT s len room)[640]? = some (.int .i64 len) := encT_get s len room 640 (by decide)
theorem encT_room (s : Nat → Slot) (len room : Int) : (encT s len room)[641]? = some (.int .i64 room) := encT_get s len room 641 (by decide)
theorem encT_key (s : Nat → Slot) (len room : Int) (i : Nat) (hi : i < 128) : (encT s len room).extract (i * 5) (i * 5 + 3) = #[.int .i64 (s i).p, .int .i64 (s i).v, .int .i64 (s i).c] := by
  apply Array.ext_getElem?
  intro j
  by_cases hj : j < 3
  · rw [Array.getElem?_extract]
    rw [if_pos (by rw [encT_size]; omega), encT_slot _ _ _ _ _ hi (by omega)]
    match j, hj with
    | 0, _ => rfl
    | 1, _ => rfl
    | 2, _ => rfl
  · rw [Array.getElem?_eq_none (by simp; omega), Array.getElem?_eq_none (by simp; omega)]
theorem encT_all (s : Nat → Slot) (len room : Int) (i : Nat) (hi : i < 128) : (encT s len room).extract (i * 5) (i * 5 + 5) = (s i).cells.toArray := by
  apply Array.ext_getElem?
  intro j
  by_cases hj : j < 5
  · rw [Array.getElem?_extract]
    rw [if_pos (by rw [encT_size]; omega), encT_slot _ _ _ _ _ hi hj]
    simp
  · rw [Array.getElem?_eq_none (by simp; omega), Array.getElem?_eq_none (by simp [Slot.cells]; omega)]
def setS (s : Nat → Slot) (i : Nat) (x : Slot) : Nat → Slot := fun k => if k = i then x else s k
theorem setRow_slot (s : Nat → Slot) (len room : Int) (i : Nat) (hi : i < 128) (x : Slot) : setRow (encT s len room) (i * 5) x.cells = encT (setS s i x) len room := by
  apply Array.ext_getElem?
  intro k
  rw [getElem?_setRow _ _ _ (by rw [encT_size]; simp [Slot.cells]; omega)]
  by_cases hk : k < 642
  · by_cases h : k < 640
    · obtain ⟨q, j, hj, rfl⟩ : ∃ q j, j < 5 ∧ k = q * 5 + j := ⟨k / 5, k % 5, by omega, by omega⟩
      by_cases e : q = i
      · subst e
        rw [if_pos (by simp [Slot.cells]; omega), encT_slot _ _ _ _ _ hi hj, show q * 5 + j - q * 5 = j by omega]
        simp [setS]
      · rw [if_neg (by simp [Slot.cells]; omega), encT_slot _ _ _ _ _ (by omega) hj, encT_slot _ _ _ _ _ (by omega) hj]
        simp [setS, e]
    · rw [if_neg (by simp [Slot.cells]; omega), encT_get _ _ _ _ hk, encT_get _ _ _ _ hk]
      unfold cellT
      rw [show Nat.blt k 640 = false from by cases e : Nat.blt k 640; rfl; exact absurd (blt_spec e) h]
      rfl
  · rw [if_neg (by simp [Slot.cells]; omega), Array.getElem?_eq_none (by rw [encT_size]; omega), Array.getElem?_eq_none (by rw [encT_size]; omega)]
theorem setRow_len (s : Nat → Slot) (len room x : Int) : setRow (encT s len room) 640 [.int .i64 x] = encT s x room := by
  apply Array.ext_getElem?
  intro k
  rw [getElem?_setRow _ _ _ (by rw [encT_size]; simp)]
  by_cases hk : k < 642
  · by_cases h : k = 640
    · subst h; rw [if_pos (by simp)]; exact (encT_get s x room 640 (by decide)).symm
    · rw [if_neg (by simp; omega), encT_get _ _ _ _ hk, encT_get _ _ _ _ hk]
      unfold cellT
      rw [show Nat.beq k 640 = false from by cases e : Nat.beq k 640; rfl; exact absurd (Nat.eq_of_beq_eq_true e) h]
      cases Nat.blt k 640 <;> rfl
  · rw [if_neg (by simp; omega), Array.getElem?_eq_none (by rw [encT_size]; omega), Array.getElem?_eq_none (by rw [encT_size]; omega)]

/-! ### Where a key lies -/
def hitB (s : Slot) (p v c : Int) : Bool := decide (s.p = p ∧ s.v = v ∧ s.c = c)
def go (s : Nat → Slot) (p v c : Int) : Nat → Nat → Nat
  | 0, i => i
  | f + 1, i => if (s i).used = true ∧ hitB (s i) p v c = false then go s p v c f ((i + 1) % 128) else i
def findN (s : Nat → Slot) (p v c : Int) : Nat := go s p v c 128 (homeN p v c)
theorem go_fuel (s : Nat → Slot) (p v c : Int) (d : Nat) : ∀ (f i : Nat), d < f → (s ((i + d) % 128)).used = false → i < 128 → go s p v c f i = go s p v c (d + 1) i := by
  induction d with
  | zero =>
    intro f i hf hu hi
    obtain ⟨f, rfl⟩ : ∃ g, f = g + 1 := ⟨f - 1, by omega⟩
    rw [Nat.add_zero, Nat.mod_eq_of_lt hi] at hu
    simp [go, hu]
  | succ d ih =>
    intro f i hf hu hi
    obtain ⟨f, rfl⟩ : ∃ g, f = g + 1 := ⟨f - 1, by omega⟩
    rw [go, go]
    split
    · refine ih f _ (by omega) ?_ (Nat.mod_lt _ (by decide))
      rw [show ((i + 1) % 128 + d) % 128 = (i + (d + 1)) % 128 by omega]
      exact hu
    · rfl
theorem go_stop (s : Nat → Slot) (p v c : Int) (f i : Nat) (h : (s i).used = false ∨ hitB (s i) p v c = true) : go s p v c (f + 1) i = i := by
  rw [go, if_neg]
  rintro ⟨h1, h2⟩
  rcases h with h | h
  · rw [h] at h1; cases h1
  · rw [h] at h2; cases h2
theorem go_next (s : Nat → Slot) (p v c : Int) (f i : Nat) (h1 : (s i).used = true) (h2 : hitB (s i) p v c = false) : go s p v c (f + 1) i = go s p v c f ((i + 1) % 128) := by
  rw [go, if_pos ⟨h1, h2⟩]
theorem go_lt (s : Nat → Slot) (p v c : Int) (f : Nat) : ∀ i, i < 128 → go s p v c f i < 128 := by
  induction f with
  | zero => intro i hi; exact hi
  | succ f ih =>
    intro i hi
    rw [go]
    split
    · exact ih _ (Nat.mod_lt _ (by decide))
    · exact hi
theorem findN_lt (s : Nat → Slot) (p v c : Int) : findN s p v c < 128 := go_lt s p v c 128 _ (homeN_lt p v c)
theorem find_start (s : Nat → Slot) (p v c : Int) (e : Nat) (he : e < 128) (hu : (s e).used = false) : ∃ d, (homeN p v c + d) % 128 = e ∧ go s p v c (d + 1) (homeN p v c) = findN s p v c := by
  have h := homeN_lt p v c
  refine ⟨(e + 128 - homeN p v c) % 128, by omega, (go_fuel s p v c _ 128 _ (by omega) ?_ h).symm⟩
  rw [show (homeN p v c + (e + 128 - homeN p v c) % 128) % 128 = e by omega]
  exact hu
theorem find_again (s : Nat → Slot) (p v c : Int) (k d e : Nat) (F : Nat) (hk : k < 128) (hd : (k + d) % 128 = e) (hu : (s e).used = false) (hgo : go s p v c (d + 1) k = F) (h1 : (s k).used = true) (h2 : hitB (s k) p v c = false) :
    (k + 1) % 128 < 128 ∧ ((k + 1) % 128 + (d - 1)) % 128 = e ∧ go s p v c (d - 1 + 1) ((k + 1) % 128) = F ∧ d - 1 < d := by
  have hd0 : d ≠ 0 := by
    rintro rfl
    rw [Nat.add_zero, Nat.mod_eq_of_lt hk] at hd
    subst hd
    rw [h1] at hu; cases hu
  refine ⟨by omega, by omega, ?_, by omega⟩
  rw [← hgo, go_next s p v c d k h1 h2, show d - 1 + 1 = d by omega]
/-- Can a key be? -/
def rightB (p v c : Int) : Bool := decide (0 ≤ p ∧ p < 8 ∧ 0 ≤ v ∧ v < 4096 ∧ 0 ≤ c ∧ c < 65536)

/-! ### Put -/
def putC (s : Nat → Slot) (len room p v c : Int) : Int := if rightB p v c = true then (if (s (findN s p v c)).used = true then 7 else if len ≥ room then 9 else 0) else 1
def putS (s : Nat → Slot) (len room p v c n : Int) : Nat → Slot := if putC s len room p v c = 0 then setS s (findN s p v c) ⟨p, v, c, n, true⟩ else s
def putL (s : Nat → Slot) (len room p v c : Int) : Int := if putC s len room p v c = 0 then len + 1 else len
theorem put_fin (s : Nat → Slot) (len room p v c n : Int) {s' : Nat → Slot} {len' code : Int} {b T : Nat} {w w1 : World} (ht : Own w1 b (encT s' len' room) T) (hS : Step (Just b) w w1)
    (h : (rightB p v c = false ∧ code = 1 ∧ (s', len') = (s, len)) ∨ (rightB p v c = true ∧ (s (findN s p v c)).used = true ∧ code = 7 ∧ (s', len') = (s, len)) ∨ (rightB p v c = true ∧ (s (findN s p v c)).used = false ∧ len ≥ room ∧ code = 9 ∧ (s', len') = (s, len)) ∨
      (rightB p v c = true ∧ (s (findN s p v c)).used = false ∧ ¬ len ≥ room ∧ code = 0 ∧ (s', len') = (setS s (findN s p v c) ⟨p, v, c, n, true⟩, len + 1))) :
    (Value.int .i64 code = .int .i64 (putC s len room p v c)) ∧ Own w1 b (encT (putS s len room p v c n) (putL s len room p v c) room) T ∧ Step (Just b) w w1 := by
  rcases h with ⟨h1, rfl, h2⟩ | ⟨h1, h3, rfl, h2⟩ | ⟨h1, h3, h4, rfl, h2⟩ | ⟨h1, h3, h4, rfl, h2⟩
  all_goals
    obtain ⟨rfl, rfl⟩ := Prod.mk.inj h2
    refine ⟨?_, ?_, hS⟩
    · simp [putC, *]
    · have e := ht; simp [putS, putL, putC, *]

/-! ### Free -/
def there (s : Nat → Slot) (p v c : Int) : Bool := (s (findN s p v c)).used
def FreeP (s : Nat → Slot) (p v fr : Int) (x : Int) (ok : Bool) : Prop :=
  ∃ e : Int, imax fr 0 ≤ e ∧ (∀ i, imax fr 0 ≤ i → i < e → rightB p v i = true ∧ there s p v i = true) ∧
    ((ok = true ∧ x = e ∧ rightB p v e = true ∧ there s p v e = false) ∨ (ok = false ∧ x = 0 ∧ rightB p v e = false))
theorem rightB_lt {p v c : Int} (h : rightB p v c = true) : 0 ≤ c ∧ c < 65536 := by
  unfold rightB at h
  have := of_decide_eq_true h
  omega
theorem free_next {s : Nat → Slot} {p v fr e : Int} (h : ∀ i, imax fr 0 ≤ i → i < e → rightB p v i = true ∧ there s p v i = true) (h1 : rightB p v e = true) (h2 : there s p v e = true) :
    ∀ i, imax fr 0 ≤ i → i < e + 1 → rightB p v i = true ∧ there s p v i = true := by
  intro i hi hlt
  by_cases e1 : i = e
  · subst e1; exact ⟨h1, h2⟩
  · exact h i hi (by omega)
end Go.Proofs.Ytfkahhkojlfmdaa
