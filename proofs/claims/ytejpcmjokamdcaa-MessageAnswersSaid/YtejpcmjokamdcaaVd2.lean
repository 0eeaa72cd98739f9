/- Results: two cells and a value. -/
import Derived.Test.YtejpcmjokamdcaaVc7
set_option linter.unusedVariables false
set_option linter.unusedSimpArgs false
namespace Go.Vc
section
variable {n : Nat} {P : Program} {l : List (Nat × Value)} {w : World}
theorem VQ_retC2T1 {fn : Func} {S : Value → World → Prop} {t t2 u : Nat} {T T2 : TypeId} {a a2 : Addr} (v v2 v' : Value) {e : Exit} (he : e = .normal ∨ e = .ret) (hr : fn.results = #[.cell t T, .cell t2 T2, .tmp u]) (ha' : look l t = some (.pointer (some a))) (ha2 : look l t2 = some (.pointer (some a2))) (hu : look l u = some v') (hv : Loads P T w a v) (hv2 : Loads P T2 w a2 v2) (hS : S (.tuple #[v, v2, v']) w) : VQ n [] (bodyPost P fn (PostV S)) e l w := by
  intro ac ha
  have : (results fn ac.tmps).run P w = .ok (.tuple #[v, v2, v']) w := by
    unfold results
    simp [hr, Array.getD_eq_getD_getElem?, ha.get t _ ha', ha.get t2 _ ha2, ha.get u _ hu, asAddr, show (loadVar T a).run P w = .ok v w from hv, show (loadVar T2 a2).run P w = .ok v2 w from hv2]
  rcases he with rfl | rfl <;> exact ⟨ha.defers, _, this, _, rfl, hS⟩
end
end Go.Vc
