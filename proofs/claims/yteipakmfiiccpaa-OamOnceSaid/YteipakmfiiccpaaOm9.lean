/- Layer 14 in plain Lean: what is packed is unpacked. -/
import Derived.Test.YteipakmfiiccpaaOm7
set_option linter.unusedVariables false
set_option linter.unusedSimpArgs false
namespace Go.Proofs.Yteipakmfiiccpaa
open Go.Vc
theorem CV.val {P : Program} {f : FuncId} {args : Array Value} {w : World} {v v' : Value} (h : CV P f args w fun x w1 => x = v ∧ Step No w w1) (e : v = v') : CV P f args w fun x w1 => x = v' ∧ Step No w w1 := CV.mono h fun x w1 hh => ⟨hh.1.trans e, hh.2⟩
theorem om_self (x : Om) : cellsEq (omL x) (omL x) = true := (omEq_iff x x).2 rfl
theorem om_nself (x : Om) : (!cellsEq (omL x) (omL x)) = false := by rw [om_self]; rfl
theorem packE_yes {o : Om} (h : rightO o = true) : packE o = 0 := by unfold packE; rw [if_pos h]
theorem packE_no {o : Om} (h : rightO o = false) : packE o = 1 := by unfold packE; rw [if_neg (by rw [h]; decide)]
theorem packV_yes {o : Om} (h : rightO o = true) : packV o = sealL (preL o) := by unfold packV; rw [if_pos h]
theorem packV_no {o : Om} (h : rightO o = false) : packV o = List.replicate 48 0 := by unfold packV; rw [if_neg (by rw [h]; decide)]
end Go.Proofs.Yteipakmfiiccpaa
