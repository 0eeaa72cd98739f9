/- Layers 6, 9, 15 in plain Lean: contracts, keys, causes as bodies. -/
import Derived.Test.YtejpcmjokamdcaaIe0
set_option linter.unusedVariables false
set_option linter.unusedSimpArgs false
namespace Go.Proofs.Ytejpcmjokamdcaa
open Go.Vc
def spanB (n least : Int) : Bool := decide (n ≥ least) && decide (n ≤ 1099511627776)
theorem spanB_T {n least : Int} (h : spanB n least = true) : least ≤ n ∧ n ≤ 1099511627776 := by simpa [spanB] using h
theorem spanB_F {n least : Int} (h : spanB n least = false) : ¬ (least ≤ n ∧ n ≤ 1099511627776) := fun h2 => by simp [spanB, h2] at h
def fineC (k p e h b t : Int) : Prop := (1 ≤ p ∧ p ≤ 1099511627776) ∧ (0 ≤ e ∧ e ≤ 1099511627776) ∧
  ((2 ≤ k ∧ k ≤ 4 ∧ (p ≤ h ∧ h ≤ 1099511627776) ∧ (0 ≤ b ∧ b ≤ 1099511627776) ∧ t = 0) ∨ (¬ (2 ≤ k ∧ k ≤ 4) ∧ h = 0 ∧ b = 0 ∧ (t = 0 ∨ k = 5 ∧ p ≤ t ∧ t ≤ 1099511627776)))
instance (k p e h b t : Int) : Decidable (fineC k p e h b t) := by unfold fineC; infer_instance
/-- What is wrong with a contract. -/
def rightC (k p e h b t : Int) : Int := if k < 1 ∨ 7 < k then 12 else if fineC k p e h b t then 0 else 11
theorem rightC_12 {k p e h b t : Int} (h1 : k < 1 ∨ 7 < k) : rightC k p e h b t = 12 := if_pos h1
theorem rightC_0 {k p e h b t : Int} (h1 : 1 ≤ k ∧ k ≤ 7) (h2 : fineC k p e h b t) : rightC k p e h b t = 0 := by rw [rightC, if_neg (by omega), if_pos h2]
theorem rightC_11 {k p e h b t : Int} (h1 : 1 ≤ k ∧ k ≤ 7) (h2 : ¬ fineC k p e h b t) : rightC k p e h b t = 11 := by rw [rightC, if_neg (by omega), if_neg h2]
theorem rightC_of {k p e h b t : Int} (h1 : rightC k p e h b t = 0) : (1 ≤ k ∧ k ≤ 7) ∧ fineC k p e h b t := by
  unfold rightC at h1
  by_cases h2 : k < 1 ∨ 7 < k
  · rw [if_pos h2] at h1; cases h1
  · by_cases h3 : fineC k p e h b t
    · exact ⟨by omega, h3⟩
    · rw [if_neg h2, if_neg h3] at h1; cases h1
theorem rightC_few (k p e h b t : Int) : rightC k p e h b t = 0 ∨ rightC k p e h b t = 11 ∨ rightC k p e h b t = 12 := by
  unfold rightC
  by_cases h2 : k < 1 ∨ 7 < k
  · rw [if_pos h2]; simp
  · by_cases h3 : fineC k p e h b t
    · rw [if_neg h2, if_pos h3]; simp
    · rw [if_neg h2, if_neg h3]; simp
theorem right_nat {k p e h b t : Int} (h1 : rightC k p e h b t = 0) : (1 ≤ k ∧ k ≤ 7) ∧ (0 ≤ p ∧ p ≤ 1099511627776) ∧ (0 ≤ e ∧ e ≤ 1099511627776) ∧ (0 ≤ h ∧ h ≤ 1099511627776) ∧ (0 ≤ b ∧ b ≤ 1099511627776) ∧ (0 ≤ t ∧ t ≤ 1099511627776) := by
  obtain ⟨h2, h3⟩ := rightC_of h1
  unfold fineC at h3
  omega
def rightK (p v c : Int) : Bool := decide (0 ≤ p ∧ p < 8 ∧ 0 ≤ v ∧ v < 4096 ∧ 0 ≤ c ∧ c < 65536)
theorem rightK_T {p v c : Int} (h : rightK p v c = true) : 0 ≤ p ∧ p < 8 ∧ 0 ≤ v ∧ v < 4096 ∧ 0 ≤ c ∧ c < 65536 := by simpa [rightK] using h
def fromB (n low high : Int) : Bool := decide (n ≥ low) && decide (n ≤ high)
def isE (id want n size : Int) : Int := if id ≠ want then 12 else if n ≠ size then 5 else 0
theorem isE_0 {id want n size : Int} (h : isE id want n size = 0) : id = want ∧ n = size := by
  unfold isE at h
  by_cases h1 : id = want
  · rw [if_neg (fun q => q h1)] at h
    by_cases h2 : n = size
    · exact ⟨h1, h2⟩
    · rw [if_pos h2] at h; cases h
  · rw [if_pos h1] at h; cases h
theorem isE_n {id want n size : Int} (h : isE id want n size ≠ 0) : id ≠ want ∧ isE id want n size = 12 ∨ id = want ∧ n ≠ size ∧ isE id want n size = 5 := by
  unfold isE at h ⊢
  by_cases h1 : id = want
  · rw [if_neg (fun q => q h1)] at h ⊢
    by_cases h2 : n = size
    · rw [if_neg (fun q => q h2)] at h; exact absurd rfl h
    · exact .inr ⟨h1, h2, if_pos h2⟩
  · exact .inl ⟨h1, if_pos h1⟩
/-! ### Bodies -/
theorem digL_front (v i : Nat) : digL v (i + 1) = IntKind.wrap .u8 ((v / 256 ^ i % 256 : Nat) : Int) :: digL v i := by
  unfold digL
  rw [List.range_succ_eq_map, List.map_cons, List.map_map]
  congr 1
  · rw [fdiv_nat, wrap_u8, wrap_u8, show i + 1 - 1 - 0 = i by omega, show (2 : Nat) ^ (8 * i) = 256 ^ i by rw [Nat.pow_mul], show (2 : Nat) ^ 8 = 256 from rfl, Nat.mod_mod]
  · apply List.map_congr_left
    intro j hj
    have := List.mem_range.1 hj
    simp only [Function.comp]
    rw [show i + 1 - 1 - (j + 1) = i - 1 - j by omega]
theorem natL_append : ∀ (xs ys : List Int) (a : Nat), (xs ++ ys).foldl (fun n x => n * 256 + x.toNat) a = ys.foldl (fun n x => n * 256 + x.toNat) (xs.foldl (fun n x => n * 256 + x.toNat) a) := fun xs ys a => List.foldl_append
theorem natL_dig (v : Nat) : ∀ (i a : Nat), (digL v i).foldl (fun n x => n * 256 + x.toNat) a = a * 256 ^ i + v % 256 ^ i
  | 0, a => by simp [digL, Nat.mod_one]
  | i + 1, a => by
    have hb : (IntKind.wrap .u8 ((v / 256 ^ i % 256 : Nat) : Int)).toNat = v / 256 ^ i % 256 := by
      rw [wrap_u8, Int.toNat_natCast]; exact Nat.mod_eq_of_lt (show v / 256 ^ i % 256 < 2 ^ 8 by omega)
    rw [digL_front, List.foldl_cons, natL_dig v i, hb, Nat.pow_succ, Nat.mod_mul]
    have h1 : (a * 256 + v / 256 ^ i % 256) * 256 ^ i = a * (256 ^ i * 256) + 256 ^ i * (v / 256 ^ i % 256) := by
      rw [Nat.add_mul, Nat.mul_assoc, Nat.mul_comm 256 (256 ^ i), Nat.mul_comm (v / 256 ^ i % 256)]
    omega
theorem natL_digL {v i : Nat} (h : v < 256 ^ i) : natL (digL v i) = v := by
  unfold natL
  rw [natL_dig, Nat.mod_eq_of_lt h]; omega
theorem getL_dig {v i : Nat} (h : v < 256 ^ i) (hi : i ≤ 6) : getL (digL v i) = (v : Int) := by
  rw [getL_eq (digL_bytes v i) (by rw [digL_len]; exact hi), natL_digL h]
theorem digL_1 {v : Nat} (h : v < 256) : digL v 1 = [(v : Int)] := by
  have : digL v 1 = [IntKind.wrap .u8 (((v : Nat) : Int).fdiv (2 ^ 0))] := rfl
  rw [this, fdiv_nat, wrap_u8, Nat.pow_zero, Nat.div_one, Nat.mod_eq_of_lt (show v < 2 ^ 8 by omega)]
def trafL (k : Int) (p e h b t : Nat) : List Int := IntKind.wrap .u8 k :: (digL p 6 ++ (digL e 6 ++ (digL h 6 ++ (digL b 6 ++ digL t 6))))
def keyL (p v c : Nat) : List Int := digL p 1 ++ (digL v 2 ++ digL c 2)
theorem trafL_len (k : Int) (p e h b t : Nat) : (trafL k p e h b t).length = 31 := by simp [trafL, digL_len]
theorem keyL_len (p v c : Nat) : (keyL p v c).length = 5 := by simp [keyL, digL_len]
theorem trafL_bytes (k : Int) (p e h b t : Nat) : Bytes (trafL k p e h b t) := Bytes.cons (byte_wrap _) ((digL_bytes _ _).app ((digL_bytes _ _).app ((digL_bytes _ _).app ((digL_bytes _ _).app (digL_bytes _ _)))))
theorem keyL_bytes (p v c : Nat) : Bytes (keyL p v c) := (digL_bytes _ _).app ((digL_bytes _ _).app (digL_bytes _ _))
theorem seg {xs ys zs : List Int} {a m : Nat} (ha : xs.length = a) (hm : ys.length = m) : ((xs ++ (ys ++ zs)).drop a).take m = ys := by
  rw [List.drop_append_of_le_length (by omega), List.drop_of_length_le (by omega), List.nil_append, List.take_append_of_le_length (by omega), List.take_of_length_le (by omega)]
/-- The j-th span of a body. -/
def fld (bs : List Int) (j : Nat) : Int := ((natL ((bs.drop (1 + 6 * j)).take 6) : Nat) : Int)
theorem fld_0 {k : Int} {p e h b t : Nat} (hp : p ≤ 1099511627776) : fld (trafL k p e h b t) 0 = p := by
  unfold fld trafL
  rw [show IntKind.wrap .u8 k :: (digL p 6 ++ (digL e 6 ++ (digL h 6 ++ (digL b 6 ++ digL t 6)))) = [IntKind.wrap .u8 k] ++ (digL p 6 ++ (digL e 6 ++ (digL h 6 ++ (digL b 6 ++ digL t 6)))) from rfl, seg (by simp) (digL_len _ _), natL_digL (by omega)]
theorem fld_1 {k : Int} {p e h b t : Nat} (hp : e ≤ 1099511627776) : fld (trafL k p e h b t) 1 = e := by
  unfold fld trafL
  rw [show IntKind.wrap .u8 k :: (digL p 6 ++ (digL e 6 ++ (digL h 6 ++ (digL b 6 ++ digL t 6)))) = (IntKind.wrap .u8 k :: digL p 6) ++ (digL e 6 ++ (digL h 6 ++ (digL b 6 ++ digL t 6))) from rfl, seg (by simp [digL_len]) (digL_len _ _), natL_digL (by omega)]
theorem fld_2 {k : Int} {p e h b t : Nat} (hp : h ≤ 1099511627776) : fld (trafL k p e h b t) 2 = h := by
  unfold fld trafL
  rw [show IntKind.wrap .u8 k :: (digL p 6 ++ (digL e 6 ++ (digL h 6 ++ (digL b 6 ++ digL t 6)))) = (IntKind.wrap .u8 k :: (digL p 6 ++ digL e 6)) ++ (digL h 6 ++ (digL b 6 ++ digL t 6)) by simp, seg (by simp [digL_len]) (digL_len _ _), natL_digL (by omega)]
theorem fld_3 {k : Int} {p e h b t : Nat} (hp : b ≤ 1099511627776) : fld (trafL k p e h b t) 3 = b := by
  unfold fld trafL
  rw [show IntKind.wrap .u8 k :: (digL p 6 ++ (digL e 6 ++ (digL h 6 ++ (digL b 6 ++ digL t 6)))) = (IntKind.wrap .u8 k :: (digL p 6 ++ (digL e 6 ++ digL h 6))) ++ (digL b 6 ++ digL t 6) by simp, seg (by simp [digL_len]) (digL_len _ _), natL_digL (by omega)]
theorem fld_4 {k : Int} {p e h b t : Nat} (hp : t ≤ 1099511627776) : fld (trafL k p e h b t) 4 = t := by
  unfold fld trafL
  rw [show IntKind.wrap .u8 k :: (digL p 6 ++ (digL e 6 ++ (digL h 6 ++ (digL b 6 ++ digL t 6)))) = (IntKind.wrap .u8 k :: (digL p 6 ++ (digL e 6 ++ (digL h 6 ++ digL b 6)))) ++ (digL t 6 ++ []) by simp, seg (by simp [digL_len]) (digL_len _ _), natL_digL (by omega)]
/-! ### What is read -/
def rtR (bs : List Int) : Int := rightC (IntKind.wrap .i64 (bs.getD 0 0)) (fld bs 0) (fld bs 1) (fld bs 2) (fld bs 3) (fld bs 4)
def rtE (id : Int) (bs : List Int) : Int := if id ≠ 89 then 12 else if bs.length ≠ 31 then 5 else rtR bs
def rtV (id : Int) (bs : List Int) (x : Int) : Int := if rtE id bs = 0 then x else 0
theorem rt_12 {id : Int} {bs : List Int} (h : id ≠ 89) : rtE id bs = 12 := if_pos h
theorem rt_5 {id : Int} {bs : List Int} (h : id = 89) (h2 : bs.length ≠ 31) : rtE id bs = 5 := by rw [rtE, if_neg (fun q => q h), if_pos h2]
theorem rt_r {id : Int} {bs : List Int} (h : id = 89) (h2 : bs.length = 31) : rtE id bs = rtR bs := by rw [rtE, if_neg (fun q => q h), if_neg (fun q => q h2)]
def fk (bs : List Int) (a m : Nat) : Int := ((natL ((bs.drop a).take m) : Nat) : Int)
def rkE (id : Int) (bs : List Int) : Int := if id ≠ 90 then 12 else if bs.length ≠ 5 then 5 else if rightK (fk bs 0 1) (fk bs 1 2) (fk bs 3 2) = true then 0 else 1
def rkV (id : Int) (bs : List Int) (x : Int) : Int := if rkE id bs = 0 then x else 0
theorem rk_12 {id : Int} {bs : List Int} (h : id ≠ 90) : rkE id bs = 12 := if_pos h
theorem rk_5 {id : Int} {bs : List Int} (h : id = 90) (h2 : bs.length ≠ 5) : rkE id bs = 5 := by rw [rkE, if_neg (fun q => q h), if_pos h2]
theorem rk_0 {id : Int} {bs : List Int} (h : id = 90) (h2 : bs.length = 5) (h3 : rightK (fk bs 0 1) (fk bs 1 2) (fk bs 3 2) = true) : rkE id bs = 0 := by rw [rkE, if_neg (fun q => q h), if_neg (fun q => q h2), if_pos h3]
theorem rk_1 {id : Int} {bs : List Int} (h : id = 90) (h2 : bs.length = 5) (h3 : rightK (fk bs 0 1) (fk bs 1 2) (fk bs 3 2) = false) : rkE id bs = 1 := by rw [rkE, if_neg (fun q => q h), if_neg (fun q => q h2), if_neg (by rw [h3]; simp)]
def rcE (id : Int) (bs : List Int) : Int := if id ≠ 8 then 12 else if bs.length ≠ 2 ∨ bs.getD 0 0 ≠ 0 ∨ bs.getD 1 0 > 127 then 5 else 0
def rcV (id : Int) (bs : List Int) : Int := if rcE id bs = 0 then IntKind.wrap .i64 (bs.getD 1 0) else 0
theorem rc_12 {id : Int} {bs : List Int} (h : id ≠ 8) : rcE id bs = 12 := if_pos h
theorem rc_5 {id : Int} {bs : List Int} (h : id = 8) (h2 : bs.length ≠ 2 ∨ bs.getD 0 0 ≠ 0 ∨ bs.getD 1 0 > 127) : rcE id bs = 5 := by rw [rcE, if_neg (fun q => q h), if_pos h2]
theorem rc_0 {id : Int} {bs : List Int} (h : id = 8) (h1 : bs.length = 2) (h2 : bs.getD 0 0 = 0) (h3 : ¬ bs.getD 1 0 > 127) : rcE id bs = 0 := by rw [rcE, if_neg (fun q => q h), if_neg (by omega)]
theorem rtV_0 {id : Int} {bs : List Int} (h : rtE id bs = 0) (x : Int) : rtV id bs x = x := if_pos h
theorem rtV_n {id : Int} {bs : List Int} (h : rtE id bs ≠ 0) (x : Int) : rtV id bs x = 0 := if_neg h
theorem rkV_0 {id : Int} {bs : List Int} (h : rkE id bs = 0) (x : Int) : rkV id bs x = x := if_pos h
theorem rkV_n {id : Int} {bs : List Int} (h : rkE id bs ≠ 0) (x : Int) : rkV id bs x = 0 := if_neg h
theorem rcV_0 {id : Int} {bs : List Int} (h : rcE id bs = 0) : rcV id bs = IntKind.wrap .i64 (bs.getD 1 0) := if_pos h
theorem rcV_n {id : Int} {bs : List Int} (h : rcE id bs ≠ 0) : rcV id bs = 0 := if_neg h
theorem rt_is {id : Int} {bs : List Int} {n : Nat} (hn : bs.length = n) (h : isE id 89 n 31 ≠ 0) : isE id 89 n 31 = rtE id bs ∧ rtE id bs ≠ 0 := by
  rcases isE_n h with ⟨h1, h2⟩ | ⟨h1, h2, h3⟩
  · rw [h2, rt_12 h1]; exact ⟨rfl, by decide⟩
  · rw [h3, rt_5 h1 (by omega)]; exact ⟨rfl, by decide⟩
theorem rk_is {id : Int} {bs : List Int} {n : Nat} (hn : bs.length = n) (h : isE id 90 n 5 ≠ 0) : isE id 90 n 5 = rkE id bs ∧ rkE id bs ≠ 0 := by
  rcases isE_n h with ⟨h1, h2⟩ | ⟨h1, h2, h3⟩
  · rw [h2, rk_12 h1]; exact ⟨rfl, by decide⟩
  · rw [h3, rk_5 h1 (by omega)]; exact ⟨rfl, by decide⟩
theorem rc_is {id : Int} {bs : List Int} {n : Nat} (hn : bs.length = n) (h : isE id 8 n 2 ≠ 0) : isE id 8 n 2 = rcE id bs ∧ rcE id bs ≠ 0 := by
  rcases isE_n h with ⟨h1, h2⟩ | ⟨h1, h2, h3⟩
  · rw [h2, rc_12 h1]; exact ⟨rfl, by decide⟩
  · rw [h3, rc_5 h1 (.inl (by omega))]; exact ⟨rfl, by decide⟩
theorem traf_kind {k : Int} {p e h b t : Nat} (hk : 1 ≤ k ∧ k ≤ 7) : IntKind.wrap .i64 ((trafL k p e h b t).getD 0 0) = k := by
  obtain ⟨m, rfl⟩ : ∃ m : Nat, k = m := ⟨k.toNat, by omega⟩
  rw [show (trafL ((m : Nat) : Int) p e h b t).getD 0 0 = IntKind.wrap .u8 ((m : Nat) : Int) from rfl, wrap_u8, Nat.mod_eq_of_lt (by omega), wrap_i64 _ (by omega) (by omega)]
/-- A contract as a body is read as what it was. -/
theorem traf_back {k : Int} {p e h b t : Nat} (hr : rightC k p e h b t = 0) : rtE 89 (trafL k p e h b t) = 0 ∧ IntKind.wrap .i64 ((trafL k p e h b t).getD 0 0) = k ∧ fld (trafL k p e h b t) 0 = p ∧ fld (trafL k p e h b t) 1 = e ∧ fld (trafL k p e h b t) 2 = h ∧ fld (trafL k p e h b t) 3 = b ∧ fld (trafL k p e h b t) 4 = t := by
  have hn := right_nat hr
  have h0 := traf_kind (p := p) (e := e) (h := h) (b := b) (t := t) hn.1
  have h1 := fld_0 (k := k) (e := e) (h := h) (b := b) (t := t) (show p ≤ 1099511627776 by omega)
  have h2 := fld_1 (k := k) (p := p) (h := h) (b := b) (t := t) (show e ≤ 1099511627776 by omega)
  have h3 := fld_2 (k := k) (p := p) (e := e) (b := b) (t := t) (show h ≤ 1099511627776 by omega)
  have h4 := fld_3 (k := k) (p := p) (e := e) (h := h) (t := t) (show b ≤ 1099511627776 by omega)
  have h5 := fld_4 (k := k) (p := p) (e := e) (h := h) (b := b) (show t ≤ 1099511627776 by omega)
  refine ⟨?_, h0, h1, h2, h3, h4, h5⟩
  rw [rt_r rfl (trafL_len ..), rtR, h0, h1, h2, h3, h4, h5, hr]
theorem key_back {p v c : Nat} (hr : rightK p v c = true) : rkE 90 (keyL p v c) = 0 ∧ fk (keyL p v c) 0 1 = p ∧ fk (keyL p v c) 1 2 = v ∧ fk (keyL p v c) 3 2 = c := by
  have hn := rightK_T hr
  have h0 : fk (keyL p v c) 0 1 = p := by
    unfold fk keyL
    rw [show digL p 1 ++ (digL v 2 ++ digL c 2) = [] ++ (digL p 1 ++ (digL v 2 ++ digL c 2)) from rfl, seg (by simp) (digL_len _ _), natL_digL (by omega)]
  have h1 : fk (keyL p v c) 1 2 = v := by
    unfold fk keyL
    rw [seg (digL_len _ _) (digL_len _ _), natL_digL (by omega)]
  have h2 : fk (keyL p v c) 3 2 = c := by
    unfold fk keyL
    rw [show digL p 1 ++ (digL v 2 ++ digL c 2) = (digL p 1 ++ digL v 2) ++ (digL c 2 ++ []) by simp, seg (by simp [digL_len]) (digL_len _ _), natL_digL (by omega)]
  exact ⟨rk_0 rfl (keyL_len ..) (by rw [h0, h1, h2]; exact hr), h0, h1, h2⟩
/-- Two contracts with one body are one. -/
theorem traf_inj {k k' : Int} {p e h b t p' e' h' b' t' : Nat} (hr : rightC k p e h b t = 0) (hr' : rightC k' p' e' h' b' t' = 0) (hq : trafL k p e h b t = trafL k' p' e' h' b' t') : k = k' ∧ p = p' ∧ e = e' ∧ h = h' ∧ b = b' ∧ t = t' := by
  obtain ⟨_, h0, h1, h2, h3, h4, h5⟩ := traf_back hr
  obtain ⟨_, g0, g1, g2, g3, g4, g5⟩ := traf_back hr'
  rw [hq] at h0 h1 h2 h3 h4 h5
  omega
theorem key_inj {p v c p' v' c' : Nat} (hr : rightK p v c = true) (hr' : rightK p' v' c' = true) (hq : keyL p v c = keyL p' v' c') : p = p' ∧ v = v' ∧ c = c' := by
  obtain ⟨_, h0, h1, h2⟩ := key_back hr
  obtain ⟨_, g0, g1, g2⟩ := key_back hr'
  rw [hq] at h0 h1 h2
  omega
end Go.Proofs.Ytejpcmjokamdcaa
