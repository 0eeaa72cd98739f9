/- Layer 21: the laws in plain Lean. -/
import Derived.Test.YtkimbomnbaogjaaAl3
set_option linter.unusedVariables false
set_option linter.unusedSimpArgs false
set_option linter.unusedSectionVars false
namespace Go.Proofs.Ytkimbomnbaogjaa
open Go.Vc

def seven : Nat → Int := fun i => if i = 0 then 7 else 0
theorem waits_got {s : Al} (h : waits s) (t : Int) (o : Om) : waits (gotA s t o) := by unfold waits; rw [gotA_wt]; exact h
theorem waits_user {s : Al} (h : waits s) : waits (userA s) := h
theorem waits_down {s : Al} (h : waits s) (b : Bool) : waits (downA s b) := h
theorem got_ais (s : Al) (t : Int) : gotA s t ⟨0, 0, false, 0, zp, zp⟩ = { s with ah := held t + s.wt } := rfl
theorem got_rdi (s : Al) (t : Int) : gotA s t ⟨1, 0, false, 0, zp, zp⟩ = { s with bh := held t + s.wt } := rfl
theorem got_chk (s : Al) (t : Int) : gotA s t ⟨4, 0, false, 0, zp, zp⟩ = { s with ah := 0 } := rfl
theorem right_place (k : Int) (hk : k = 0 ∨ k = 1) (p : Nat → Int) : rightO ⟨k, 0, false, 0, p, zp⟩ = true := by
  rw [rightO_01 (o := ⟨k, 0, false, 0, p, zp⟩) hk]
  exact (cellsEq_iff (ks := omLs) (by simp [CellsAre, omL, Leaf.has, omLs, u8s, rep]) (by simp [CellsAre, omL, Leaf.has, omLs, u8s, rep])).2 rfl
theorem got_ais' (s : Al) (t : Int) (p : Nat → Int) : gotA s t ⟨0, 0, false, 0, p, zp⟩ = { s with ah := held t + s.wt } := by
  unfold gotA; rw [if_pos (right_place 0 (.inl rfl) p), if_pos rfl]
theorem got_rdi' (s : Al) (t : Int) (p : Nat → Int) : gotA s t ⟨1, 0, false, 0, p, zp⟩ = { s with bh := held t + s.wt } := by
  unfold gotA; rw [if_pos (right_place 1 (.inr rfl) p), if_neg (by simp), if_pos rfl]

/-! ### Over -/
section
variable {s : Al} {w t : Int} (hw : s.wt = imax 1 (held w)) (h0 : 0 ≤ w) (h1 : w < 4294967296) (t0 : 0 ≤ t) (t1 : t < 4294967296)
include hw h0 h1 t0 t1
theorem wt_w : s.wt = imax 1 w := by rw [hw, held_eq w (by omega) (by omega)]
theorem over_x1 : IntKind.wrap .i64 (IntKind.wrap .i64 (t + imax 1 w) - 1) = t + imax 1 w - 1 := by
  have : imax 1 w = max 1 w := imax_eq 1 w
  rw [wrap_i64 (t + imax 1 w) (by omega) (by omega), wrap_i64 _ (by omega) (by omega)]
theorem over_x2 : IntKind.wrap .i64 (t + imax 1 w) = t + imax 1 w := by
  have : imax 1 w = max 1 w := imax_eq 1 w
  rw [wrap_i64 (t + imax 1 w) (by omega) (by omega)]
theorem over_a1 : aheadA (gotA (gotA s t ⟨0, 0, false, 0, zp, zp⟩) t ⟨1, 0, false, 0, zp, zp⟩) (IntKind.wrap .i64 (IntKind.wrap .i64 (t + imax 1 w) - 1)) = true := by
  have hi : imax 1 w = max 1 w := imax_eq 1 w
  have hh := wt_w hw h0 h1 t0 t1
  rw [over_x1 hw h0 h1 t0 t1, got_rdi, got_ais]
  refine decide_eq_true ?_
  show held (t + imax 1 w - 1) < held t + s.wt
  rw [held_eq _ (by omega) (by omega), held_eq t (by omega) (by omega)]; omega
theorem over_b1 : behindA (gotA (gotA s t ⟨0, 0, false, 0, zp, zp⟩) t ⟨1, 0, false, 0, zp, zp⟩) (IntKind.wrap .i64 (IntKind.wrap .i64 (t + imax 1 w) - 1)) = true := by
  have hi : imax 1 w = max 1 w := imax_eq 1 w
  have hh := wt_w hw h0 h1 t0 t1
  rw [over_x1 hw h0 h1 t0 t1, got_rdi, got_ais]
  refine decide_eq_true ?_
  show held (t + imax 1 w - 1) < held t + s.wt
  rw [held_eq _ (by omega) (by omega), held_eq t (by omega) (by omega)]; omega
theorem over_a2 : aheadA (gotA (gotA s t ⟨0, 0, false, 0, zp, zp⟩) t ⟨1, 0, false, 0, zp, zp⟩) (IntKind.wrap .i64 (t + imax 1 w)) = false := by
  have hi : imax 1 w = max 1 w := imax_eq 1 w
  have hh := wt_w hw h0 h1 t0 t1
  rw [over_x2 hw h0 h1 t0 t1, got_rdi, got_ais]
  refine decide_eq_false ?_
  show ¬ held (t + imax 1 w) < held t + s.wt
  rw [held_eq _ (by omega) (by omega), held_eq t (by omega) (by omega)]; omega
theorem over_b2 : behindA (gotA (gotA s t ⟨0, 0, false, 0, zp, zp⟩) t ⟨1, 0, false, 0, zp, zp⟩) (IntKind.wrap .i64 (t + imax 1 w)) = false := by
  have hi : imax 1 w = max 1 w := imax_eq 1 w
  have hh := wt_w hw h0 h1 t0 t1
  rw [over_x2 hw h0 h1 t0 t1, got_rdi, got_ais]
  refine decide_eq_false ?_
  show ¬ held (t + imax 1 w) < held t + s.wt
  rw [held_eq _ (by omega) (by omega), held_eq t (by omega) (by omega)]; omega
omit hw h0 h1 t0 t1 in
theorem over_user (hq : waits s) : aheadA (userA (gotA (gotA s t ⟨0, 0, false, 0, zp, zp⟩) t ⟨1, 0, false, 0, zp, zp⟩)) t = false ∧ behindA (userA (gotA (gotA s t ⟨0, 0, false, 0, zp, zp⟩) t ⟨1, 0, false, 0, zp, zp⟩)) t = true := by
  unfold waits at hq
  rw [got_rdi, got_ais]
  have hh := held_bd t
  exact ⟨decide_eq_false (show ¬ held t < 0 by omega), decide_eq_true (show held t < held t + s.wt by omega)⟩
omit hw h0 h1 t0 t1 in
theorem over_chk (hq : waits s) : aheadA (gotA (gotA (gotA s t ⟨0, 0, false, 0, zp, zp⟩) t ⟨1, 0, false, 0, zp, zp⟩) t ⟨4, 0, false, 0, zp, zp⟩) t = false ∧ behindA (gotA (gotA (gotA s t ⟨0, 0, false, 0, zp, zp⟩) t ⟨1, 0, false, 0, zp, zp⟩) t ⟨4, 0, false, 0, zp, zp⟩) t = true := by
  unfold waits at hq
  rw [got_chk, got_rdi, got_ais]
  have hh := held_bd t
  exact ⟨decide_eq_false (show ¬ held t < 0 by omega), decide_eq_true (show held t < held t + s.wt by omega)⟩
end
def lastD (q : Nat → OpA) : Nat → Bool
  | 0 => false
  | k + 1 => if (q k).do_ = 3 ∨ (q k).do_ = 4 then (q k).do_ == 3 else lastD q k
theorem stepA_dn (s : Al) (x : OpA) : (stepA s x).dn = if x.do_ = 3 ∨ x.do_ = 4 then x.do_ == 3 else s.dn := by
  unfold stepA
  by_cases h1 : x.do_ = 1
  · rw [if_pos h1, if_neg (by omega), gotA_dn]
  · by_cases h2 : x.do_ = 2
    · rw [if_neg h1, if_pos h2, if_neg (by omega)]; rfl
    · rw [if_neg h1, if_neg h2]
      by_cases h3 : x.do_ = 3 ∨ x.do_ = 4
      · rw [if_pos h3, if_pos h3]; rfl
      · rw [if_neg h3, if_neg h3]
theorem walkA_dn (h : Nat → Int) (x : Int) (q : Nat → OpA) (n : Nat) : (walkA h x q n).dn = lastD q n := by
  induction n with
  | zero => rfl
  | succ n ih => rw [walkA, stepA_dn, ih]; rfl
theorem lastD_yes {q : Nat → OpA} {k : Nat} (h : (q k).do_ = 3 ∨ (q k).do_ = 4) : lastD q (k + 1) = ((q k).do_ == 3) := by rw [lastD, if_pos h]
theorem lastD_no {q : Nat → OpA} {k : Nat} (h3 : (q k).do_ ≠ 3) (h4 : (q k).do_ ≠ 4) : lastD q (k + 1) = lastD q k := by rw [lastD, if_neg (by omega)]
theorem place_ne {p q : Nat → Int} (h : p = q) : (!cellsEq (pl p) (pl q)) = false := by
  subst h
  show (!plEq p p) = false
  rw [plEq_refl]; rfl
theorem place_eq {p q : Nat → Int} (h : p = q) : cellsEq (pl p) (pl q) = true := by
  subst h
  exact plEq_refl p
theorem right_known (o : Om) (w : World) (h : rightO o = true) : CV Try.prog 22 #[.agg (omL o).toArray] w fun x w1 => x = .bool true ∧ Step No w w1 := by
  refine (right_any o w).mono ?_
  rintro x w1 ⟨rfl, hs⟩
  exact ⟨by rw [h], hs⟩
theorem told_ab {s : Al} (hq : waits s) (t : Int) (p p' : Nat → Int) : aheadA (gotA (gotA s t ⟨0, 0, false, 0, p, zp⟩) t ⟨1, 0, false, 0, p', zp⟩) t = true ∧ behindA (gotA (gotA s t ⟨0, 0, false, 0, p, zp⟩) t ⟨1, 0, false, 0, p', zp⟩) t = true := by
  unfold waits at hq
  rw [got_rdi', got_ais']
  exact ⟨decide_eq_true (show held t < held t + s.wt by omega), decide_eq_true (show held t < held t + s.wt by omega)⟩
theorem told_b {s : Al} (hq : waits s) (t : Int) (p : Nat → Int) : behindA (gotA s t ⟨1, 0, false, 0, p, zp⟩) t = true := by
  unfold waits at hq
  rw [got_rdi']
  exact decide_eq_true (show held t < held t + s.wt by omega)
theorem got_twice (s : Al) (t : Int) (o : Om) : gotA (gotA s t o) t o = gotA s t o := by
  unfold gotA
  by_cases h : rightO o = true
  · simp only [h, if_true]
    by_cases h0 : o.k = 0
    · simp only [h0, if_true]
    · by_cases h1 : o.k = 1
      · simp only [h0, h1, if_true, if_false]; simp
      · by_cases h4 : o.k = 4
        · simp only [h0, h1, h4, if_true, if_false]; simp
        · simp only [h0, h1, h4, if_true, if_false]
  · simp [h]
section
variable {s : Al} {w t : Int} (hw : s.wt = imax 1 (held w)) (h0 : 0 ≤ w) (h1 : w < 4294967296) (t0 : 0 ≤ t) (t1 : t < 4294967296) {o : Om} (hr : rightO o = true) (hk : o.k = 0)
include hw h0 h1 t0 t1 hr hk
theorem rep_1 : aheadA (gotA s t o) (IntKind.wrap .i64 (IntKind.wrap .i64 (t + imax 1 w) - 1)) = true := by
  have hi : imax 1 w = max 1 w := imax_eq 1 w
  have hh := wt_w hw h0 h1 t0 t1
  rw [over_x1 hw h0 h1 t0 t1]
  unfold gotA
  rw [if_pos hr, if_pos hk]
  refine decide_eq_true ?_
  show held (t + imax 1 w - 1) < held t + s.wt
  rw [held_eq _ (by omega) (by omega), held_eq t (by omega) (by omega)]; omega
theorem rep_2 : aheadA (gotA s t o) (IntKind.wrap .i64 (t + imax 1 w)) = false := by
  have hi : imax 1 w = max 1 w := imax_eq 1 w
  have hh := wt_w hw h0 h1 t0 t1
  rw [over_x2 hw h0 h1 t0 t1]
  unfold gotA
  rw [if_pos hr, if_pos hk]
  refine decide_eq_false ?_
  show ¬ held (t + imax 1 w) < held t + s.wt
  rw [held_eq _ (by omega) (by omega), held_eq t (by omega) (by omega)]; omega
end
theorem imax_bd {a b : Int} (h : 0 ≤ a ∧ a < 4294967296) (h' : 0 ≤ b ∧ b < 4294967296) : 0 ≤ imax a b ∧ imax a b < 4294967296 := by rw [imax_eq]; omega
theorem lit_u32 {a : Int} (h : (Lit.int .u32 a).wf = true) : 0 ≤ a ∧ a < 4294967296 := by
  have h0 : IntKind.u32.min = 0 := rfl
  have h1 : IntKind.u32.max = 4294967295 := rfl
  simp [Lit.wf] at h
  omega
theorem wrap_u32 {a : Int} (h : 0 ≤ a ∧ a < 4294967296) : IntKind.wrap .i64 a = a := wrap_i64 a (by omega) (by omega)
theorem pl_arr {cs : Array Value} (h : CellsW cs.toList u8s) : ∃ p, cs = (pl p).toArray ∧ inByte p := by
  obtain ⟨p, h1, h2⟩ := pl_of h
  exact ⟨p, Array.toList_inj.1 (by simpa using h1), h2⟩
theorem om_arr {cs : Array Value} (h : CellsW cs.toList omLs) : ∃ o : Om, cs = (omL o).toArray ∧ inByte o.p := by
  obtain ⟨o, h1, h2, _⟩ := om_of h
  exact ⟨o, Array.toList_inj.1 (by simpa using h1), h2⟩
end Go.Proofs.Ytkimbomnbaogjaa
