/- Layer 16: what a message asks for. -/
import Derived.Test.YtejpcmjokamdcaaMe4
import Derived.Test.YtejpcmjokamdcaaIe6
set_option linter.unusedVariables false
set_option linter.unusedSimpArgs false
namespace Go.Proofs.Ytejpcmjokamdcaa
open Go.Vc
def fstI (id : Int) (L : List IeD) : IeD := (L.find? (fun y => decide (y.1 = id))).getD (0, [])
def callE (k : Int) (L : List IeD) : Int := if k ≠ 5 then 12 else
  if (L.find? (fun y => decide (y.1 = 89))).isSome = true ∧ (L.find? (fun y => decide (y.1 = 90))).isSome = true then
    (if rtE (fstI 89 L).1 (fstI 89 L).2 ≠ 0 then rtE (fstI 89 L).1 (fstI 89 L).2 else rkE (fstI 90 L).1 (fstI 90 L).2) else 8
def callV (k : Int) (L : List IeD) (x : Int) : Int := if callE k L = 0 then x else 0
theorem callV_0 {k : Int} {L : List IeD} (h : callE k L = 0) (x : Int) : callV k L x = x := if_pos h
theorem callV_n {k : Int} {L : List IeD} (h : callE k L ≠ 0) (x : Int) : callV k L x = 0 := if_neg h
theorem call_12 {k : Int} {L : List IeD} (h : k ≠ 5) : callE k L = 12 := if_pos h
theorem call_8a {k : Int} {l : List IeV} (h : ¬ k ≠ 5) (h2 : l.find? (isId 89) = none) : callE k (vals l) = 8 := by
  rw [callE, if_neg h, if_neg (by rw [find_vals, h2]; simp)]
theorem call_8b {k : Int} {l : List IeV} (h : ¬ k ≠ 5) (h2 : l.find? (isId 90) = none) : callE k (vals l) = 8 := by
  rw [callE, if_neg h, if_neg (by rw [find_vals l 90, h2]; simp)]
theorem fstI_is {l : List IeV} {id : Int} {y : IeV} (h : l.find? (isId id) = some y) : fstI id (vals l) = (y.id, y.bs) := by
  rw [fstI, find_vals, h]; rfl
theorem call_b {k : Int} {l : List IeV} {y z : IeV} (h : ¬ k ≠ 5) (h1 : l.find? (isId 89) = some y) (h2 : l.find? (isId 90) = some z) : callE k (vals l) = if rtE y.id y.bs ≠ 0 then rtE y.id y.bs else rkE z.id z.bs := by
  rw [callE, if_neg h, if_pos (by rw [find_vals, find_vals, h1, h2]; simp), fstI_is h1, fstI_is h2]
theorem call_t {k : Int} {l : List IeV} {y z : IeV} (h : ¬ k ≠ 5) (h1 : l.find? (isId 89) = some y) (h2 : l.find? (isId 90) = some z) (h3 : rtE y.id y.bs ≠ 0) : callE k (vals l) = rtE y.id y.bs := by rw [call_b h h1 h2, if_pos h3]
theorem call_k {k : Int} {l : List IeV} {y z : IeV} (h : ¬ k ≠ 5) (h1 : l.find? (isId 89) = some y) (h2 : l.find? (isId 90) = some z) (h3 : rtE y.id y.bs = 0) : callE k (vals l) = rkE z.id z.bs := by rw [call_b h h1 h2, if_neg (fun q => q h3)]
end Go.Proofs.Ytejpcmjokamdcaa
