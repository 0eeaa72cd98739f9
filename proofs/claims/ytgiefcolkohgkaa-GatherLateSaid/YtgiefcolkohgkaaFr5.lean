/- Layer 10 in plain Lean, the document's. -/
import Derived.Test.YtgiefcolkohgkaaFr3
set_option linter.unusedVariables false
set_option linter.unusedSimpArgs false
namespace Go.Proofs.Ytgiefcolkohgkaa
open Go.Vc
def rsumL (bs : List Int) : List Int := [IntKind.wrap .u8 (IntKind.wrap .u32 ((rlongB bs).tdiv 16777216)), IntKind.wrap .u8 ((IntKind.wrap .u32 ((rlongB bs).tdiv 65536)).tmod 256), IntKind.wrap .u8 ((IntKind.wrap .u32 ((rlongB bs).tdiv 256)).tmod 256), IntKind.wrap .u8 ((rlongB bs).tmod 256)]
def rlenB (n : Nat) : List Int := [IntKind.wrap .u8 ((n / 256 : Nat) : Int), IntKind.wrap .u8 ((n % 256 : Nat) : Int)]
def rheadF (bs : List Int) (m : Int) : List Int := padF bs ++ (m :: 0 :: rlenB bs.length)
def rframeF (bs : List Int) (m : Int) : List Int := rheadF bs m ++ rsumL (rheadF bs m)
def rlenF (bs : List Int) (n : Nat) : Nat := (bs.getD (n - 6) 0 * 256 + bs.getD (n - 5) 0).toNat
theorem rlenF_lt {bs : List Int} {n : Nat} (hb : Bytes bs) : rlenF bs n < 65536 := by
  have h2 := hb.get (n - 6)
  have h3 := hb.get (n - 5)
  unfold rlenF
  omega
theorem rlenF_eq {bs : List Int} {n : Nat} (hb : Bytes bs) : IntKind.wrap .i64 (IntKind.wrap .i64 (IntKind.wrap .i64 (bs.getD (n - 6) 0) * 256) + IntKind.wrap .i64 (bs.getD (n - 5) 0)) = ((rlenF bs n : Nat) : Int) := by
  have h2 := hb.get (n - 6)
  have h3 := hb.get (n - 5)
  rw [wrap_i64 (bs.getD (n - 6) 0) (by omega) (by omega), wrap_i64 (bs.getD (n - 5) 0) (by omega) (by omega), wrap_i64 (bs.getD (n - 6) 0 * 256) (by omega) (by omega), wrap_i64 _ (by omega) (by omega)]
  unfold rlenF
  omega
open Classical in
noncomputable def runE (bs : List Int) : Int :=
  let n := bs.length
  if n = 0 ∨ n % 48 ≠ 0 then 5 else if (bs.drop (n - 4)).take (n - (n - 4)) ≠ rsumL (bs.take (n - 4)) then 4
  else if bs.getD (n - 7) 0 ≠ 0 ∨ rlenF bs n = 0 ∨ n - 8 < rlenF bs n ∨ 47 < n - 8 - rlenF bs n then 5
  else if ∃ k, rlenF bs n ≤ k ∧ k < n - 8 ∧ bs.getD k 0 ≠ 0 then 5 else if 1000 < rlenF bs n then 6 else 0
noncomputable def runT (bs : List Int) : List Int := if runE bs = 0 then bs.take (rlenF bs bs.length) else []
noncomputable def runM (bs : List Int) : Int := if runE bs = 0 then bs.getD (bs.length - 8) 0 else 0
theorem run_err {bs : List Int} {e : Int} (h : runE bs = e) (he : e ≠ 0) : runT bs = [] ∧ runM bs = 0 := by
  unfold runT runM
  rw [h, if_neg he, if_neg he]; exact ⟨rfl, rfl⟩
theorem run_5a {bs : List Int} (h : bs.length = 0 ∨ bs.length % 48 ≠ 0) : runE bs = 5 := by unfold runE; rw [if_pos h]
theorem run_4 {bs : List Int} {n : Nat} (hn : bs.length = n) (h0 : n ≠ 0) (h1 : n % 48 = 0) (h2 : (bs.drop (n - 4)).take (n - (n - 4)) ≠ rsumL (bs.take (n - 4))) : runE bs = 4 := by
  subst hn; unfold runE; rw [if_neg (by omega), if_pos h2]
theorem run_5b {bs : List Int} {n : Nat} (hn : bs.length = n) (h0 : n ≠ 0) (h1 : n % 48 = 0) (h2 : (bs.drop (n - 4)).take (n - (n - 4)) = rsumL (bs.take (n - 4))) (h3 : bs.getD (n - 7) 0 ≠ 0 ∨ rlenF bs n = 0 ∨ n - 8 < rlenF bs n ∨ 47 < n - 8 - rlenF bs n) : runE bs = 5 := by
  subst hn; unfold runE; rw [if_neg (by omega), if_neg (by simp [h2]), if_pos h3]
theorem run_5c {bs : List Int} {n k : Nat} (hn : bs.length = n) (h0 : n ≠ 0) (h1 : n % 48 = 0) (h2 : (bs.drop (n - 4)).take (n - (n - 4)) = rsumL (bs.take (n - 4))) (h3 : bs.getD (n - 7) 0 = 0) (h4 : rlenF bs n ≠ 0) (h5 : rlenF bs n ≤ n - 8) (h6 : n - 8 - rlenF bs n ≤ 47) (h7 : rlenF bs n ≤ k) (h8 : k < n - 8) (h9 : bs.getD k 0 ≠ 0) : runE bs = 5 := by
  subst hn; unfold runE; rw [if_neg (by omega), if_neg (by simp [h2]), if_neg (by rintro (h | h | h); exact h h3; exact h4 h; omega), if_pos ⟨k, h7, h8, h9⟩]
theorem run_6 {bs : List Int} {n : Nat} (hn : bs.length = n) (h0 : n ≠ 0) (h1 : n % 48 = 0) (h2 : (bs.drop (n - 4)).take (n - (n - 4)) = rsumL (bs.take (n - 4))) (h3 : bs.getD (n - 7) 0 = 0) (h4 : rlenF bs n ≠ 0) (h5 : rlenF bs n ≤ n - 8) (h6 : n - 8 - rlenF bs n ≤ 47) (h7 : ∀ k, rlenF bs n ≤ k → k < n - 8 → bs.getD k 0 = 0) (h8 : 1000 < rlenF bs n) : runE bs = 6 := by
  subst hn; unfold runE; rw [if_neg (by omega), if_neg (by simp [h2]), if_neg (by rintro (h | h | h); exact h h3; exact h4 h; omega), if_neg (by rintro ⟨k, a, b, c⟩; exact c (h7 k a b)), if_pos h8]
theorem run_0 {bs : List Int} {n : Nat} (hn : bs.length = n) (h0 : n ≠ 0) (h1 : n % 48 = 0) (h2 : (bs.drop (n - 4)).take (n - (n - 4)) = rsumL (bs.take (n - 4))) (h3 : bs.getD (n - 7) 0 = 0) (h4 : rlenF bs n ≠ 0) (h5 : rlenF bs n ≤ n - 8) (h6 : n - 8 - rlenF bs n ≤ 47) (h7 : ∀ k, rlenF bs n ≤ k → k < n - 8 → bs.getD k 0 = 0) (h8 : ¬ 1000 < rlenF bs n) : runE bs = 0 ∧ runT bs = bs.take (rlenF bs n) ∧ runM bs = bs.getD (n - 8) 0 := by
  subst hn
  have : runE bs = 0 := by unfold runE; rw [if_neg (by omega), if_neg (by simp [h2]), if_neg (by rintro (h | h | h); exact h h3; exact h4 h; omega), if_neg (by rintro ⟨k, a, b, c⟩; exact c (h7 k a b)), if_neg h8]
  exact ⟨this, by unfold runT; rw [if_pos this], by unfold runM; rw [if_pos this]⟩
end Go.Proofs.Ytgiefcolkohgkaa
