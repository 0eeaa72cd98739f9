/- Layer 1: Long, both sides. -/
import Derived.Test.YtgiefcolkohgkaaProg
import Derived.Test.YtgiefcolkohgkaaRf6
import Derived.Test.YtgiefcolkohgkaaSm1
import Derived.Test.YtgiefcolkohgkaaRf5
set_option linter.unusedVariables false
set_option linter.unusedSimpArgs false
namespace Go.Proofs.Ytgiefcolkohgkaa
open Go.Vc Go.RowKit

set_option maxRecDepth 100000 in
set_option maxHeartbeats 4000000 in
theorem long_any (A : Option Addr) (n c Bd : Nat) (bs : List Int) (w : World) (hn : bs.length = n) (hA : Sl w Bd A (iL .u8 bs)) (hlen : n ≤ 10000) (hBd : Bd ≤ w.heap.size) :
    CV Try.prog 34 #[.slice A n c] w (fun x w1 => x = .int .u32 (longB bs) ∧ Step No w w1) := by
  have hS : Step No w w := Step.refl _ _
  refine CV_enter Try.f34 _ 6 [(0, .slice A n c)] Try.func34 rfl rfl (by kernel_rfl) rfl ?_
  refine VC_seq ?_
  refine VC_region ?_
  refine VL_pure 1 [0] [(0, .slice A n c)] (by kernel_rfl) rfl ?_
  refine VL_end (by kernel_rfl) ?_
  refine VQ_next ?_
  refine VC_seq ?_
  refine VC_region ?_
  refine VL_pure 1 [3] [(3, .slice A n c)] (by kernel_rfl) rfl ?_
  have hzs1 := hS.size
  refine VL_call (d := 4) (f := 38) (args := #[.slice A n c, .int .u32 4294967295, .int .u32 2147483648, .int .u32 79764919]) (by kernel_rfl) (by kernel_rfl) (by kernel_rfl) Try.call38 (rest_any A n c _ bs _ hn hA 4294967295 2147483648 79764919 (by omega) (by first | exact Nat.le_refl _ | omega)) ?_
  rintro _ w1 ⟨rfl, hc1⟩
  replace hS := Step.trans hS hc1
  replace hA := hA.no hc1
  refine VL_pure 4 [2] [(2, .int .u32 (bXor .u32 4294967295 (restB bs 4294967295 2147483648 79764919)))] (by kernel_rfl) rfl ?_
  refine VL_end (by kernel_rfl) ?_
  refine VQ_next ?_
  refine VC_ret ?_
  refine VQ_ret1 (.int .u32 (bXor .u32 4294967295 (restB bs 4294967295 2147483648 79764919))) (.inr rfl) rfl rfl ?_
  exact ⟨rfl, hS⟩

set_option maxRecDepth 100000 in
set_option maxHeartbeats 4000000 in
theorem rlong_any (A : Option Addr) (n c Bd : Nat) (bs : List Int) (w : World) (hn : bs.length = n) (hA : Sl w Bd A (iL .u8 bs)) (hlen : n ≤ 10000) (hBd : Bd ≤ w.heap.size) :
    CV Try.prog 33 #[.slice A n c] w (fun x w1 => x = .int .u32 (rlongB bs) ∧ Step No w w1) := by
  have hS : Step No w w := Step.refl _ _
  refine CV_enter Try.f33 _ 8 [(0, .slice A n c)] Try.func33 rfl rfl (by kernel_rfl) rfl ?_
  refine VC_seq ?_
  refine VC_region ?_
  refine VL_pure 1 [0] [(0, .slice A n c)] (by kernel_rfl) rfl ?_
  refine VL_end (by kernel_rfl) ?_
  refine VQ_next ?_
  refine VC_seq ?_
  refine VC_region ?_
  refine VL_pure 1 [3] [(3, .slice A n c)] (by kernel_rfl) rfl ?_
  have hzs1 := hS.size
  refine VL_call (d := 4) (f := 37) (args := #[.slice A n c]) (by kernel_rfl) (by kernel_rfl) (by kernel_rfl) Try.call37 (rbits_any A n c _ bs _ hn hA (by omega) (by first | exact Nat.le_refl _ | omega)) ?_
  rintro _ w1 ⟨A2, c2, rfl, hr2, hc1⟩
  replace hS := Step.trans hS hc1
  replace hA := hA.no hc1
  obtain ⟨base2, hbase2E⟩ : ∃ x, x = w.heap.size := ⟨_, rfl⟩
  rw [← hbase2E] at hr2
  have hbase2 : base2 ≤ w1.heap.size := by rw [hbase2E]; exact hc1.size
  have hzs2 := hS.size
  refine VL_call (d := 5) (f := 36) (args := #[.slice A2 (8 * n) c2, .int .u64 79764919, .int .i64 32, .bool true]) (by kernel_rfl) (by kernel_rfl) (by kernel_rfl) Try.call36 (rrestT2_any A2 (8 * n) c2 _ (rbitsL bs) _ (Rw.lenI hr2) (Rw.slI hr2) (by omega) (by first | exact Nat.le_refl _ | omega) 79764919 32 (by omega) (by omega)) ?_
  rintro _ w2 ⟨rfl, hc2⟩
  replace hS := Step.trans hS hc2
  replace hA := hA.no hc2
  replace hbase2 := Nat.le_trans hbase2 (hc2).size
  replace hr2 := hr2.no hc2
  refine VL_pure 6 [2] [(2, .int .u32 (bXor .u32 4294967295 (IntKind.wrap .u32 (restT 79764919 32 (rbitsL bs)))))] (by kernel_rfl) rfl ?_
  refine VL_end (by kernel_rfl) ?_
  refine VQ_next ?_
  refine VC_ret ?_
  refine VQ_ret1 (.int .u32 (bXor .u32 4294967295 (IntKind.wrap .u32 (restT 79764919 32 (rbitsL bs))))) (.inr rfl) rfl rfl ?_
  exact ⟨rfl, hS⟩

end Go.Proofs.Ytgiefcolkohgkaa
