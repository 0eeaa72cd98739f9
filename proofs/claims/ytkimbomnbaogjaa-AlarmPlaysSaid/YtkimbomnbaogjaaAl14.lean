/- Layer 21: the document's alarm. -/
import Derived.Test.YtkimbomnbaogjaaAl12
import Derived.Test.YtkimbomnbaogjaaVc10
set_option linter.unusedVariables false
set_option linter.unusedSimpArgs false
namespace Go.Proofs.Ytkimbomnbaogjaa
open Go.Vc
def rfC (s : Al) : Array Value := #[.int .u8 (s.here 0), .int .u8 (s.here 1), .int .u8 (s.here 2), .int .u8 (s.here 3), .int .u8 (s.here 4), .int .u8 (s.here 5), .int .u8 (s.here 6), .int .u8 (s.here 7), .int .u8 (s.here 8), .int .u8 (s.here 9), .int .u8 (s.here 10), .int .u8 (s.here 11), .int .u8 (s.here 12), .int .u8 (s.here 13), .int .u8 (s.here 14), .int .u8 (s.here 15), .int .i64 s.wt, .bool s.dn, .int .i64 s.ah, .int .i64 s.bh]
theorem rgotA_0 {s : Al} {t : Int} {o : Om} (h : rightO o = true) (hk : o.k = 0) (hw : waits s) : rfC ⟨IntKind.wrap .i64 (held t + s.wt), s.bh, s.here, s.wt, s.dn⟩ = rfC (gotA s t o) := by
  rw [wrap_hw hw]; unfold gotA; rw [if_pos h, if_pos hk]
theorem rgotA_1 {s : Al} {t : Int} {o : Om} (h : rightO o = true) (hk0 : o.k ≠ 0) (hk : o.k = 1) (hw : waits s) : rfC ⟨s.ah, IntKind.wrap .i64 (held t + s.wt), s.here, s.wt, s.dn⟩ = rfC (gotA s t o) := by
  rw [wrap_hw hw]; unfold gotA; rw [if_pos h, if_neg hk0, if_pos hk]
theorem rgotA_4 {s : Al} {t : Int} {o : Om} (h : rightO o = true) (hk0 : o.k ≠ 0) (hk1 : o.k ≠ 1) (hk : o.k = 4) : rfC (userA s) = rfC (gotA s t o) := by
  unfold gotA; rw [if_pos h, if_neg hk0, if_neg hk1, if_pos hk]; rfl
theorem rgotA_no' {s : Al} {t : Int} {o : Om} (h : rightO o = true) (hk0 : o.k ≠ 0) (hk1 : o.k ≠ 1) (hk : o.k ≠ 4) : rfC s = rfC (gotA s t o) := by rw [gotA_not hk0 hk1 hk]
theorem omL_one (o : Om) : ∀ v ∈ omL o, oneC v = true := by
  intro v hv
  simp only [omL, List.mem_cons, List.mem_nil_iff, or_false] at hv
  rcases hv with h | h | h | h | h | h | h | h | h | h | h | h | h | h | h | h | h | h | h | h | h | h | h | h | h | h | h | h | h | h | h | h | h | h | h | h <;> (rw [h]; rfl)
end Go.Proofs.Ytkimbomnbaogjaa
