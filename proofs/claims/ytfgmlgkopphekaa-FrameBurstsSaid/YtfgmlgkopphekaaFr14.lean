/- Registers: bursts are told. -/
import Derived.Test.YtfgmlgkopphekaaFr7
set_option linter.unusedVariables false
set_option linter.unusedSimpArgs false
namespace Go.Proofs.Ytfgmlgkopphekaa
open Go.Vc
theorem stepN_0 {d g r : Nat} {b : Bool} (hd : 1 ≤ d) (hg : g.testBit 0 = true) : (stepN d g r b).testBit 0 = (b ^^ r.testBit (d - 1)) := by
  have := stepN_bit (g := g) (r := r) (bit := b) hd (d - 1) (by omega)
  rw [Nat.sub_self, hg, Bool.and_true, decide_eq_false (by omega), Bool.false_and, Bool.false_xor] at this
  exact this
theorem agree_step {d g r r' s : Nat} {b b' : Bool} (hd : 1 ≤ d) (hg : g.testBit 0 = true) (h1 : 1 ≤ s) (hs : s ≤ d) (h : ∀ i, i < s → (stepN d g r b).testBit i = (stepN d g r' b').testBit i) :
    (∀ i, i < s - 1 → r.testBit i = r'.testBit i) ∧ (b ^^ r.testBit (d - 1)) = (b' ^^ r'.testBit (d - 1)) := by
  have h0 : (b ^^ r.testBit (d - 1)) = (b' ^^ r'.testBit (d - 1)) := by
    rw [← stepN_0 (r := r) (b := b) hd hg, ← stepN_0 (r := r') (b := b') hd hg]
    exact h 0 (by omega)
  refine ⟨fun i hi => ?_, h0⟩
  have e1 := stepN_bit (g := g) (r := r) (bit := b) hd (d - 1 - (i + 1)) (by omega)
  have e2 := stepN_bit (g := g) (r := r') (bit := b') hd (d - 1 - (i + 1)) (by omega)
  rw [show d - 1 - (d - 1 - (i + 1)) = i + 1 by omega, show d - 1 - (d - 1 - (i + 1) + 1) = i by omega, decide_eq_true (by omega), Bool.true_and] at e1 e2
  rw [h (i + 1) (by omega), e2, ← h0] at e1
  revert e1
  generalize ((b ^^ r.testBit (d - 1)) && g.testBit (i + 1)) = X
  cases X <;> cases r.testBit i <;> cases r'.testBit i <;> simp
theorem agree_fold {d g : Nat} (hd : 1 ≤ d) (hg : g.testBit 0 = true) : ∀ (l l' : List Bool), l.length = l'.length → ∀ r r' t : Nat, l.length ≤ t → t ≤ d →
    (∀ i, i < t → (l.foldl (stepN d g) r).testBit i = (l'.foldl (stepN d g) r').testBit i) → ∀ i, i < t - l.length → r.testBit i = r'.testBit i
  | [], [], _, r, r', t, _, _, h => fun i hi => h i hi
  | b :: l, b' :: l', hl, r, r', t, h1, h2, h => by
    have ih := agree_fold hd hg l l' (by simpa using hl) (stepN d g r b) (stepN d g r' b') t (by simp at h1; omega) h2 h
    simp only [List.length_cons] at h1 ⊢
    have := (agree_step (s := t - l.length) hd hg (by omega) (by omega) ih).1
    intro i hi
    exact this i (by omega)
  | [], _ :: _, hl, _, _, _, _, _, _ => by simp at hl
  | _ :: _, [], hl, _, _, _, _, _, _ => by simp at hl
theorem burst_eq {d g : Nat} (hd : 1 ≤ d) (hg : g.testBit 0 = true) : ∀ (l l' : List Bool), l.length = l'.length → l.length ≤ d → ∀ r : Nat, l.foldl (stepN d g) r = l'.foldl (stepN d g) r → l = l'
  | [], [], _, _, _, _ => rfl
  | b :: l, b' :: l', hl, hld, r, h => by
    have hl2 : l.length = l'.length := by simpa using hl
    simp only [List.length_cons] at hld
    rw [List.foldl_cons, List.foldl_cons] at h
    have := agree_fold hd hg l l' hl2 (stepN d g r b) (stepN d g r b') d (by omega) (Nat.le_refl _) (fun i _ => by rw [h]) 0 (by omega)
    rw [stepN_0 hd hg, stepN_0 hd hg] at this
    have hb : b = b' := by revert this; cases b <;> cases b' <;> cases r.testBit (d - 1) <;> simp
    subst hb
    rw [burst_eq hd hg l l' hl2 (by omega) (stepN d g r b) h]
  | [], _ :: _, hl, _, _, _ => by simp at hl
  | _ :: _, [], hl, _, _, _ => by simp at hl
theorem fold_ne {d g : Nat} (hd : 1 ≤ d) (hg : g.testBit 0 = true) (hg2 : g < 2 ^ d) : ∀ (l : List Bool) (r r' : Nat), r < 2 ^ d → r' < 2 ^ d → r ≠ r' → l.foldl (stepN d g) r ≠ l.foldl (stepN d g) r'
  | [], _, _, _, _, h => h
  | b :: l, r, r', hr, hr', h => fold_ne hd hg hg2 l _ _ (stepN_lt hg2) (stepN_lt hg2) fun e => h (by
      have hs := agree_step (s := d) (r := r) (r' := r') (b := b) (b' := b) hd hg hd (Nat.le_refl _) (fun i _ => by rw [e])
      apply Nat.eq_of_testBit_eq
      intro i
      by_cases hi : i < d - 1
      · exact hs.1 i hi
      · by_cases hi2 : i = d - 1
        · have := hs.2
          rw [hi2]
          revert this
          cases b <;> simp
        · rw [Nat.testBit_lt_two_pow (Nat.lt_of_lt_of_le hr (Nat.pow_le_pow_right (by omega) (by omega))), Nat.testBit_lt_two_pow (Nat.lt_of_lt_of_le hr' (Nat.pow_le_pow_right (by omega) (by omega)))])
theorem fold_lt {d g : Nat} (hg2 : g < 2 ^ d) : ∀ (l : List Bool) (r : Nat), r < 2 ^ d → l.foldl (stepN d g) r < 2 ^ d
  | [], _, h => h
  | _ :: l, _, _ => fold_lt hg2 l _ (stepN_lt hg2)
/-- A run of at most d bits that is turned makes another register. -/
theorem burst_ne {d g r : Nat} (hd : 1 ≤ d) (hg : g.testBit 0 = true) (hg2 : g < 2 ^ d) (hr : r < 2 ^ d) (p u u' q : List Bool) (hl : u.length = u'.length) (hd2 : u.length ≤ d) (hne : u ≠ u') :
    (p ++ u ++ q).foldl (stepN d g) r ≠ (p ++ u' ++ q).foldl (stepN d g) r := by
  rw [List.foldl_append, List.foldl_append, List.foldl_append, List.foldl_append]
  exact fold_ne hd hg hg2 q _ _ (fold_lt hg2 u _ (fold_lt hg2 p r hr)) (fold_lt hg2 u' _ (fold_lt hg2 p r hr)) fun e => hne (burst_eq hd hg u u' hl hd2 _ e)
/-- Bits that differ as the registers do: behind them the registers are one. -/
theorem run_same {d g : Nat} (hd : 1 ≤ d) : ∀ (l l' : List Bool), l.length = l'.length → l.length ≤ d → ∀ r r' : Nat, (∀ i, i < l.length → (l.getD i false ^^ l'.getD i false) = (r.testBit (d - 1 - i) ^^ r'.testBit (d - 1 - i))) →
    ∀ j, j < d → ((l.foldl (stepN d g) r).testBit j ^^ (l'.foldl (stepN d g) r').testBit j) = (decide (l.length ≤ j) && (r.testBit (j - l.length) ^^ r'.testBit (j - l.length)))
  | [], [], _, _, r, r', _ => fun j _ => by simp
  | b :: l, b' :: l', hl, hld, r, r', h => by
    have hl2 : l.length = l'.length := by simpa using hl
    simp only [List.length_cons] at hld
    have h0 : (b ^^ b') = (r.testBit (d - 1) ^^ r'.testBit (d - 1)) := h 0 (by simp)
    have hs : ∀ j, j < d → ((stepN d g r b).testBit j ^^ (stepN d g r' b').testBit j) = (decide (1 ≤ j) && (r.testBit (j - 1) ^^ r'.testBit (j - 1))) := by
      intro j hj
      have e1 := stepN_bit (g := g) (r := r) (bit := b) hd (d - 1 - j) (by omega)
      have e2 := stepN_bit (g := g) (r := r') (bit := b') hd (d - 1 - j) (by omega)
      rw [show d - 1 - (d - 1 - j) = j by omega, show d - 1 - (d - 1 - j + 1) = j - 1 by omega, show decide (d - 1 - j + 1 < d) = decide (1 ≤ j) from decide_eq_decide.2 (by omega)] at e1 e2
      rw [e1, e2]
      revert h0
      generalize r.testBit (d - 1) = x, r'.testBit (d - 1) = x', r.testBit (j - 1) = y, r'.testBit (j - 1) = y', decide (1 ≤ j) = z, g.testBit j = v
      cases b <;> cases b' <;> cases x <;> cases x' <;> cases y <;> cases y' <;> cases z <;> cases v <;> decide
    have ih := run_same (g := g) hd l l' hl2 (by omega) (stepN d g r b) (stepN d g r' b') (fun i hi => by
      rw [hs (d - 1 - i) (by omega), decide_eq_true (by omega), Bool.true_and, show d - 1 - i - 1 = d - 1 - (i + 1) by omega]
      exact h (i + 1) (by simp; omega))
    intro j hj
    rw [List.foldl_cons, List.foldl_cons, ih j hj, List.length_cons]
    by_cases hlj : l.length ≤ j
    · rw [decide_eq_true hlj, Bool.true_and, hs (j - l.length) (by omega), show j - l.length - 1 = j - (l.length + 1) by omega, show decide (1 ≤ j - l.length) = decide (l.length + 1 ≤ j) from decide_eq_decide.2 (by omega)]
    · rw [decide_eq_false hlj, decide_eq_false (by omega), Bool.false_and, Bool.false_and]
  | [], _ :: _, hl, _, _, _, _ => by simp at hl
  | _ :: _, [], hl, _, _, _, _ => by simp at hl
theorem run_eq {d g : Nat} (hd : 1 ≤ d) (hg2 : g < 2 ^ d) (l l' : List Bool) (hl : l.length = d) (hl' : l'.length = d) (r r' : Nat) (hr : r < 2 ^ d) (hr' : r' < 2 ^ d) (h : ∀ i, i < d → (l.getD i false ^^ l'.getD i false) = (r.testBit (d - 1 - i) ^^ r'.testBit (d - 1 - i))) :
    l.foldl (stepN d g) r = l'.foldl (stepN d g) r' := by
  have hs := run_same (g := g) hd l l' (hl.trans hl'.symm) (by omega) r r' (fun i hi => h i (by omega))
  apply Nat.eq_of_testBit_eq
  intro j
  by_cases hj : j < d
  · have := hs j hj
    rw [hl, decide_eq_false (by omega), Bool.false_and] at this
    revert this
    generalize (l.foldl (stepN d g) r).testBit j = x, (l'.foldl (stepN d g) r').testBit j = y
    cases x <;> cases y <;> decide
  · rw [Nat.testBit_lt_two_pow (Nat.lt_of_lt_of_le (fold_lt hg2 l r hr) (Nat.pow_le_pow_right (by omega) (by omega))), Nat.testBit_lt_two_pow (Nat.lt_of_lt_of_le (fold_lt hg2 l' r' hr') (Nat.pow_le_pow_right (by omega) (by omega)))]
end Go.Proofs.Ytfgmlgkopphekaa
