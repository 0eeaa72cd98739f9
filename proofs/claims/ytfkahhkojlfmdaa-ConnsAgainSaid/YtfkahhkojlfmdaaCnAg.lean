/- Layer 9: ConnsAgain. -/
import Derived.Test.YtfkahhkojlfmdaaProg
import Derived.Test.YtfkahhkojlfmdaaCnSm
import Derived.Test.YtfkahhkojlfmdaaCn4
set_option linter.unusedVariables false
set_option linter.unusedSimpArgs false
namespace Go.Proofs.Ytfkahhkojlfmdaa
open Go.Vc Go.RowKit

def Ent.kcells (x : Ent) : List Value := [.int .i64 x.p, .int .i64 x.v, .int .i64 x.c]
theorem kcells_len (x : Ent) : x.kcells.length = 3 := rfl
theorem kcells_one (x : Ent) : ∀ u ∈ x.kcells, oneC u = true := by
  intro u hu
  simp only [Ent.kcells, List.mem_cons, List.mem_nil_iff, or_false] at hu
  rcases hu with rfl | rfl | rfl <;> rfl
theorem putE_no {M : List Ent} {room p v c n : Int} (h : putK M room p v c ≠ 0) : putE M room p v c n = M := by
  unfold putE; rw [if_neg h]
theorem lsame_refl {A A2 : Option Addr} {n n2 c c2 B1 B2 : Nat} {xs : List Ent} {w : World} (hn : xs.length = n) (hn2 : xs.length = n2) (hA : Sl w B1 A (flat Ent.cells xs)) (hA2 : Sl w B2 A2 (flat Ent.cells xs)) (hm : n ≤ 1000) (hm2 : n2 ≤ 1000) : CV Try.prog 19 #[.slice A n c, .slice A2 n2 c2] w fun x w1 => x = .bool true ∧ Step No w w1 := by
  refine (lsame_any A A2 n n2 c c2 B1 B2 xs xs w hn hn2 hA hA2 hm hm2).mono ?_
  rintro x w1 ⟨rfl, hs⟩
  exact ⟨by rw [decide_eq_true rfl], hs⟩
set_option maxRecDepth 100000 in
set_option maxHeartbeats 4000000 in
theorem connsAgain_any (A A2 : Option Addr) (n cc n2 cc2 : Nat) (q q2 : Nat → Op4) (w : World) (hA : OpsAt w A n q) (hA2 : OpsAt w A2 n2 q2) :
    CV Try.prog 5 #[.slice A n cc, .slice A2 n2 cc2] w (fun x w1 => x = .bool true ∧ Step No w w1) := by
  have hS : Step No w w := Step.refl _ _
  refine CV_enterM Try.f5 _ 117 [(0, .slice A n cc), (1, .slice A2 n2 cc2)] Try.func5 rfl rfl (by kernel_rfl) rfl ?_
  refine VC_seq ?_
  refine VC_region ?_
  refine VL_pure 1 [0, 1, 4] [(0, .slice A n cc), (1, .slice A2 n2 cc2), (4, .bool false)] (by kernel_rfl) rfl ?_
  refine VL_end (by kernel_rfl) ?_
  refine VQ_next ?_
  refine VC_seq ?_
  refine VC_seq ?_
  refine VC_region ?_
  have hzs1 := hS.size
  refine VL_call (d := 16) (f := 9) (args := #[]) (by kernel_rfl) (by kernel_rfl) (by kernel_rfl) Try.call9 (awake_any _) ?_
  rintro _ w1 ⟨rfl, hc1⟩
  replace hS := Step.trans hS hc1
  refine VL_pure 8 [0, 1, 4, 23] [(0, .slice A n cc), (1, .slice A2 n2 cc2), (4, .bool false), (23, .bool (decide (((n : Nat) : Int) > 30)))] (by kernel_rfl) rfl ?_
  refine VL_dec (((n : Nat) : Int) > 30) (fun bV => [(0, .slice A n cc), (1, .slice A2 n2 cc2), (4, .bool false), (23, .bool bV)]) rfl (fun hg1 => ?_) (fun hg1 => ?_)
  · refine VL_pure 12 [0, 1, 4, 27] [(0, .slice A n cc), (1, .slice A2 n2 cc2), (4, .bool false), (27, .bool true)] (by kernel_rfl) rfl ?_
    refine VL_end (by kernel_rfl) ?_
    refine VQ_next ?_
    refine VC_true (by kernel_rfl) ?_
    refine VC_seq ?_
    refine VC_region ?_
    have hzs2 := hS.size
    refine VL_call (d := 28) (f := 9) (args := #[]) (by kernel_rfl) (by kernel_rfl) (by kernel_rfl) Try.call9 (awake_any _) ?_
    rintro _ w2 ⟨rfl, hc2⟩
    replace hS := Step.trans hS hc2
    refine VL_pure 2 [4] [(4, .bool true)] (by kernel_rfl) rfl ?_
    refine VL_end (by kernel_rfl) ?_
    refine VQ_next ?_
    refine VC_ret ?_
    refine VQ_then_ret ?_
    have hzs3 := hS.size
    refine VQ_retM1 (.bool true) [] (.inr rfl) rfl rfl trivial ?_
    intro w3 hq1
    replace hq1 : Step No w2 w3 := Step.mono hq1 (fun i hi => by simp at hi)
    replace hS := Step.trans hS hq1
    exact ⟨rfl, hS⟩
  · refine VL_pure 12 [0, 1, 4, 27] [(0, .slice A n cc), (1, .slice A2 n2 cc2), (4, .bool false), (27, .bool (decide (((n2 : Nat) : Int) > 30)))] (by kernel_rfl) rfl ?_
    refine VL_end (by kernel_rfl) ?_
    refine VQ_next ?_
    refine VC_dec (((n2 : Nat) : Int) > 30) (by kernel_rfl) (fun h1 => ?_) (fun h1 => ?_)
    · refine VC_seq ?_
      refine VC_region ?_
      have hzs4 := hS.size
      refine VL_call (d := 28) (f := 9) (args := #[]) (by kernel_rfl) (by kernel_rfl) (by kernel_rfl) Try.call9 (awake_any _) ?_
      rintro _ w4 ⟨rfl, hc3⟩
      replace hS := Step.trans hS hc3
      refine VL_pure 2 [4] [(4, .bool true)] (by kernel_rfl) rfl ?_
      refine VL_end (by kernel_rfl) ?_
      refine VQ_next ?_
      refine VC_ret ?_
      refine VQ_then_ret ?_
      have hzs5 := hS.size
      refine VQ_retM1 (.bool true) [] (.inr rfl) rfl rfl trivial ?_
      intro w5 hq2
      replace hq2 : Step No w4 w5 := Step.mono hq2 (fun i hi => by simp at hi)
      replace hS := Step.trans hS hq2
      exact ⟨rfl, hS⟩
    · refine VC_skip ?_
      refine VQ_next ?_
      refine VC_seq ?_
      refine VC_region ?_
      have hzs6 := hS.size
      refine VL_call (d := 29) (f := 10) (args := #[.int .i64 64]) (by kernel_rfl) (by kernel_rfl) (by kernel_rfl) Try.call10 (tnew 64 _) ?_
      rintro _ w6 ⟨tb1, rfl, hftb1, hT1, hc4⟩
      replace hS := Step.trans hS hc4
      rw [show imax 0 (imin 64 64) = 64 from by decide] at hT1
      have hztb1 := hT1.lt
      have hzs7 := hS.size
      have hzl1 := Tb.lt hT1
      refine VL_call (d := 30) (f := 10) (args := #[.int .i64 64]) (by kernel_rfl) (by kernel_rfl) (by kernel_rfl) Try.call10 (tnew 64 _) ?_
      rintro _ w7 ⟨tb2, rfl, hftb2, hT2, hc5⟩
      replace hS := Step.trans hS hc5
      replace hT1 := Tb.no hT1 hc5
      rw [show imax 0 (imin 64 64) = 64 from by decide] at hT2
      have hztb2 := hT2.lt
      have hzs8 := hS.size
      have hzl2 := Tb.lt hT1
      have hzl3 := Tb.lt hT2
      refine VL_box (d := 6) (t := 24) (c := #[.pointer none]) (by kernel_rfl) (by kernel_rfl) ?_
      intro b1 w8 hn1
      replace hS := Step.trans hS (hn1.step No)
      replace hT1 := Tb.no hT1 (hn1.step No)
      replace hT2 := Tb.no hT2 (hn1.step No)
      have ho1 := hn1.own
      have hzhn1 := hn1.size
      have hqhn1 := hn1.eqb
      refine VL_pure 4 [0, 1, 4, 30, 6, 5] [(0, .slice A n cc), (1, .slice A2 n2 cc2), (4, .bool false), (30, .pointer (some ⟨tb2, 0, none⟩)), (6, .pointer (some ⟨b1, 0, none⟩)), (5, .pointer (some ⟨tb1, 0, none⟩))] (by kernel_rfl) rfl ?_
      refine VL_store (b := b1) (o := 0) (vs := [.pointer (some ⟨tb2, 0, none⟩)]) (by kernel_rfl) (by kernel_rfl) ho1 (Nat.le_of_ble_eq_true (by kernel_rfl)) ?_
      intro w9 hw1
      replace hS := Step.transNew hS hw1.step (fun _ _ _ => by omega)
      replace hT1 := Tb.step hT1 hw1.step (show ¬ tb1 = b1 by omega)
      replace hT2 := Tb.step hT2 hw1.step (show ¬ tb2 = b1 by omega)
      have ho2 : Own w9 b1 #[.pointer (some ⟨tb2, 0, none⟩)] 24 := Own.cast hw1.own (by kernel_rfl)
      have hzhw1 := hw1.same
      refine VL_end (by kernel_rfl) ?_
      refine VQ_next ?_
      refine VC_seq ?_
      refine VC_seq ?_
      refine VC_region ?_
      refine VL_pure 3 [0, 1, 4, 6, 5, 32, 33] [(0, .slice A n cc), (1, .slice A2 n2 cc2), (4, .bool false), (6, .pointer (some ⟨b1, 0, none⟩)), (5, .pointer (some ⟨tb1, 0, none⟩)), (32, .int .i64 ((n : Nat) : Int)), (33, .int .i64 0)] (by kernel_rfl) rfl ?_
      refine VL_end (by kernel_rfl) ?_
      refine VQ_next ?_
      refine VC_block ?_
      refine VC_loop (σ := Nat × (List Ent)) (fun σs => [(0, .slice A n cc), (1, .slice A2 n2 cc2), (4, .bool false), (6, .pointer (some ⟨b1, 0, none⟩)), (5, .pointer (some ⟨tb1, 0, none⟩)), (32, .int .i64 ((n : Nat) : Int)), (33, .int .i64 ((σs.1 : Nat) : Int))]) (fun σs wr => σs.1 ≤ n ∧ Tb wr tb1 64 σs.2 ∧ (Step No w wr) ∧ (Tb wr tb2 64 ([] : List Ent)) ∧ (Own wr b1 #[.pointer (some ⟨tb2, 0, none⟩)] 24)) (fun σs wr => n - σs.1) ⟨0, []⟩ ⟨rfl, rfl, rfl, rfl, rfl, rfl, rfl, trivial⟩ ?_ ?_
      · exact ⟨Nat.zero_le _, hT1, hS, hT2, ho2⟩
      rintro ⟨k, L⟩ wr ⟨hk0, hT, hS, hT2, ho2⟩
      try dsimp only at hk0 hT hS hT2 ho2 ⊢
      refine VC_seq ?_
      refine VC_region ?_
      refine VL_pure 1 [0, 1, 4, 6, 5, 32, 33, 34] [(0, .slice A n cc), (1, .slice A2 n2 cc2), (4, .bool false), (6, .pointer (some ⟨b1, 0, none⟩)), (5, .pointer (some ⟨tb1, 0, none⟩)), (32, .int .i64 ((n : Nat) : Int)), (33, .int .i64 ((k : Nat) : Int)), (34, .bool (decide (((k : Nat) : Int) < ((n : Nat) : Int))))] (by kernel_rfl) rfl ?_
      refine VL_end (by kernel_rfl) ?_
      refine VQ_next ?_
      refine VC_seq ?_
      refine VC_dec (((k : Nat) : Int) < ((n : Nat) : Int)) (by kernel_rfl) (fun h2 => ?_) (fun h2 => ?_)
      · refine VC_skip ?_
        refine VQ_next ?_
        refine VC_seq ?_
        refine VC_block ?_
        refine VC_seq ?_
        refine VC_region ?_
        refine VL_pure 2 [0, 1, 4, 6, 5, 32, 33, 7] [(0, .slice A n cc), (1, .slice A2 n2 cc2), (4, .bool false), (6, .pointer (some ⟨b1, 0, none⟩)), (5, .pointer (some ⟨tb1, 0, none⟩)), (32, .int .i64 ((n : Nat) : Int)), (33, .int .i64 ((k : Nat) : Int)), (7, .int .i64 ((k : Nat) : Int))] (by kernel_rfl) rfl ?_
        refine VL_end (by kernel_rfl) ?_
        refine VQ_next ?_
        have hk : k < n := by omega
        obtain ⟨lb, lo, rfl, hL⟩ := hA (by omega)
        replace hL : OpsB w lb lo n q := hL
        refine VC_det [[], [], [], [1, 2], [1, 2, 3], [1, 2, 3, 4], [], [], [6, 7], [6, 7, 8], [6, 7, 8, 9], [0, 1, 2, 3, 4, 5, 6, 7, 8, 9, 10]] 11 [.pointer (some ⟨tb1, 0, none⟩), .slice (some ⟨lb, lo, none⟩) n cc, .int .i64 ((k : Nat) : Int), .pointer (some ⟨lb, lo + k * 4, none⟩), .pointer (some ⟨lb, lo + k * 4, none⟩), .agg #[.int .i64 ((q k).p), .int .i64 ((q k).v), .int .i64 ((q k).c)], .slice (some ⟨lb, lo, none⟩) n cc, .int .i64 ((k : Nat) : Int), .pointer (some ⟨lb, lo + k * 4, none⟩), .pointer (some ⟨lb, lo + k * 4 + 3, none⟩), .int .i64 ((q k).n)] [0, 1, 2, 4, 6, 7, 9] [3, 5, 8, 10] (by kernel_rfl) (by kernel_rfl) (by kernel_rfl) (by kernel_rfl) ?_ ?_
        · intro w10 hs1
          replace hT := Tb.no hT hs1
          replace hS := Step.trans hS hs1
          replace hT2 := Tb.no hT2 hs1
          replace ho2 := ho2.no hs1
          exact ⟨Det1_index (d := 39) (b := lb) (o := lo) (len := n) (sz := 4) (m := ((k : Nat) : Int)) (by kernel_rfl) (by kernel_rfl) k (by rfl) (by omega) (lo + k * 4) (by omega), Det1_load (d := 41) (t := 29) (a := ⟨lb, lo + k * 4, none⟩) (by kernel_rfl) (by kernel_rfl) (hL.key hS (by kernel_rfl) k hk), Det1_index (d := 44) (b := lb) (o := lo) (len := n) (sz := 4) (m := ((k : Nat) : Int)) (by kernel_rfl) (by kernel_rfl) k (by rfl) (by omega) (lo + k * 4) (by omega), Det1_load (d := 46) (t := 3) (a := ⟨lb, lo + k * 4 + 3, none⟩) (by kernel_rfl) (by kernel_rfl) (hL.num hS (by kernel_rfl) k hk), trivial⟩
        intro w10 hs1
        replace hT := Tb.no hT hs1
        replace hS := Step.trans hS hs1
        replace hT2 := Tb.no hT2 hs1
        replace ho2 := ho2.no hs1
        refine VL_keep [0, 1, 4, 6, 5, 32, 33, 36, 41, 46] [(0, .slice (some ⟨lb, lo, none⟩) n cc), (1, .slice A2 n2 cc2), (4, .bool false), (6, .pointer (some ⟨b1, 0, none⟩)), (5, .pointer (some ⟨tb1, 0, none⟩)), (32, .int .i64 ((n : Nat) : Int)), (33, .int .i64 ((k : Nat) : Int)), (36, .pointer (some ⟨tb1, 0, none⟩)), (41, .agg #[.int .i64 ((q k).p), .int .i64 ((q k).v), .int .i64 ((q k).c)]), (46, .int .i64 ((q k).n))] (by kernel_rfl) ?_
        have hzl4 := Tb.lt hT
        have hzs9 := hS.size
        have hzl5 := Tb.lt hT2
        have hzl6 := ho2.lt
        refine VL_call (d := 47) (f := 11) (args := #[.pointer (some ⟨tb1, 0, none⟩), .agg #[.int .i64 ((q k).p), .int .i64 ((q k).v), .int .i64 ((q k).c)], .int .i64 ((q k).n)]) (by kernel_rfl) (by kernel_rfl) (by kernel_rfl) Try.call11 (tput ((q k).p) ((q k).v) ((q k).c) ((q k).n) hT) ?_
        rintro _ w11 ⟨rfl, hT3, hc6⟩
        replace hS := Step.transNew hS hc6 (fun _ _ _ => by omega)
        replace hT2 := Tb.step hT2 hc6 (show ¬ tb2 = tb1 by omega)
        replace ho2 := ho2.step hc6 (show ¬ b1 = tb1 by omega)
        refine VL_end (by kernel_rfl) ?_
        refine VQ_block_normal ?_
        refine VQ_next ?_
        refine VC_region ?_
        refine VL_pure 1 [0, 1, 4, 6, 5, 32, 48] [(0, .slice (some ⟨lb, lo, none⟩) n cc), (1, .slice A2 n2 cc2), (4, .bool false), (6, .pointer (some ⟨b1, 0, none⟩)), (5, .pointer (some ⟨tb1, 0, none⟩)), (32, .int .i64 ((n : Nat) : Int)), (48, .int .i64 (IntKind.wrap .i64 (((k : Nat) : Int) + 1)))] (by kernel_rfl) rfl ?_
        have he1 : IntKind.wrap .i64 (((k : Nat) : Int) + 1) = ((k + 1 : Nat) : Int) := (by rw [wrap_i64 _ (by omega) (by omega)]; omega)
        refine VL_eq [(0, .slice (some ⟨lb, lo, none⟩) n cc), (1, .slice A2 n2 cc2), (4, .bool false), (6, .pointer (some ⟨b1, 0, none⟩)), (5, .pointer (some ⟨tb1, 0, none⟩)), (32, .int .i64 ((n : Nat) : Int)), (48, .int .i64 ((k + 1 : Nat) : Int))] (by rw [he1]) ?_
        refine VL_pure 2 [0, 1, 4, 6, 5, 32, 33] [(0, .slice (some ⟨lb, lo, none⟩) n cc), (1, .slice A2 n2 cc2), (4, .bool false), (6, .pointer (some ⟨b1, 0, none⟩)), (5, .pointer (some ⟨tb1, 0, none⟩)), (32, .int .i64 ((n : Nat) : Int)), (33, .int .i64 ((k + 1 : Nat) : Int))] (by kernel_rfl) rfl ?_
        refine VL_end (by kernel_rfl) ?_
        refine VQ_again ⟨k + 1, (putE L 64 ((q k).p) ((q k).v) ((q k).c) ((q k).n))⟩ ⟨rfl, rfl, rfl, rfl, rfl, rfl, rfl, trivial⟩ ?_ ?_
        · exact ⟨by omega, hT3, hS, hT2, ho2⟩
        · (try dsimp only); omega
      · refine VC_exit ?_
        refine VQ_then_exit ?_
        refine VQ_then_exit ?_
        refine VQ_block_hit ?_
        refine VQ_next ?_
        refine VC_seq ?_
        refine VC_seq ?_
        refine VC_region ?_
        refine VL_pure 1 [1, 4, 6, 5, 49] [(1, .slice A2 n2 cc2), (4, .bool false), (6, .pointer (some ⟨b1, 0, none⟩)), (5, .pointer (some ⟨tb1, 0, none⟩)), (49, .pointer (some ⟨tb1, 0, none⟩))] (by kernel_rfl) rfl ?_
        have hzl7 := Tb.lt hT
        have hzs10 := hS.size
        have hzl8 := Tb.lt hT2
        have hzl9 := ho2.lt
        refine VL_call (d := 50) (f := 17) (args := #[.pointer (some ⟨tb1, 0, none⟩)]) (by kernel_rfl) (by kernel_rfl) (by kernel_rfl) Try.call17 (all_any tb1 _) ?_
        rintro _ w12 ⟨bb1, rfl, hfbb1, hbb1, hc7⟩
        replace hT := Tb.no hT hc7
        replace hS := Step.trans hS hc7
        replace hT2 := Tb.no hT2 hc7
        replace ho2 := ho2.no hc7
        have hzbb1 := hbb1.lt
        refine VL_end (by kernel_rfl) ?_
        refine VQ_next ?_
        refine VC_block ?_
        have hzl10 := Tb.lt hT
        have hzs11 := hS.size
        have hzl11 := Tb.lt hT2
        have hzl12 := ho2.lt
        have hzl13 := hbb1.lt
        have hsrt := hT.srt
        have hsm := hT.small
        have hrt : ∀ x ∈ L, rightB x.p x.v x.c = true := fun x hx => Tb.right hT hx
        have hzl14 := Tb.lt hT
        have hzs12 := hS.size
        have hzl15 := Tb.lt hT2
        have hzl16 := ho2.lt
        have hzl17 := hbb1.lt
        refine VC_range (gf := 28) (lb := #[.pointer (some ⟨bb1, 0, none⟩)]) (xs := (entV L)) (by kernel_rfl) Try.call28 (titer bb1 tb1 64 L) (fun a ha => by obtain ⟨x, _, rfl⟩ := List.mem_map.1 ha; rfl) (by kernel_rfl) (fun M i => i = tb2) (fun M i hi => by (try simp only at hi); omega) (fun M k W => (Tb W tb1 64 L) ∧ (Step No w W) ∧ (Tb W tb2 64 (L.take (k))) ∧ (Own W b1 #[.pointer (some ⟨tb2, 0, none⟩)] 24) ∧ (Own W bb1 #[.pointer (some ⟨tb1, 0, none⟩)] 24)) (fun e W => False) (by rintro M k W W' ⟨hT, hS, hT2, ho2, hbb1⟩ hs; exact ⟨Tb.step hT hs (show ¬ tb1 = (w12.heap.size + 1) by omega), Step.transNew hS hs (fun i hi hG => by have : i = (w12.heap.size + 1) := hG; omega), Tb.step hT2 hs (show ¬ tb2 = (w12.heap.size + 1) by omega), ho2.step hs (show ¬ b1 = (w12.heap.size + 1) by omega), hbb1.step hs (show ¬ bb1 = (w12.heap.size + 1) by omega)⟩) (by rintro e W W' h; exact h.elim) (by rintro M k W W' ⟨hT, hS, hT2, ho2, hbb1⟩ hs; exact ⟨(Tb.no hT hs), Step.trans hS hs, (Tb.no hT2 hs), ho2.no hs, hbb1.no hs⟩) (by rintro e W W' h; exact h.elim) (by rintro M k W ⟨hT, hS, hT2, ho2, hbb1⟩; exact fun _ => ⟨hbb1, hT⟩) (fun W hs _ => ⟨hbb1.no hs, hT.no hs⟩) (fun M W hMm hM2 hs _ => ⟨(Tb.no hT hs), Step.trans hS hs, (Tb.no hT2 hs), ho2.no hs, hbb1.no hs⟩) ?_ ?_ ?_
        · intro M k w13 args hM hM2 hx hJ0 hsz
          obtain ⟨hT, hS, hT2, ho2, hbb1⟩ := hJ0
          obtain ⟨y, hy, rfl⟩ := entV_inv hx
          have hAs : Step No w13 w13 := Step.refl _ _
          have hML : M ≤ w13.heap.size := hM2
          refine VC_keep [6, 51, 52] [(6, .pointer (some ⟨b1, 0, none⟩)), (51, .agg #[.int .i64 y.p, .int .i64 y.v, .int .i64 y.c]), (52, .int .i64 y.n)] (by kernel_rfl) ?_
          refine VC_seq ?_
          refine VC_region ?_
          have hzl18 := Tb.lt hT
          have hzs13 := hS.size
          have hzl19 := Tb.lt hT2
          have hzl20 := ho2.lt
          have hzl21 := hbb1.lt
          have hzk1 := hML
          have hzs14 := hAs.size
          refine VL_box (d := 8) (t := 29) (c := #[.int .i64 0, .int .i64 0, .int .i64 0]) (by kernel_rfl) (by kernel_rfl) ?_
          intro b2 w14 hn2
          replace hT := Tb.no hT (hn2.step No)
          replace hS := Step.trans hS (hn2.step No)
          replace hT2 := Tb.no hT2 (hn2.step No)
          replace ho2 := ho2.no (hn2.step No)
          replace hbb1 := hbb1.no (hn2.step No)
          replace hML := Nat.le_trans hML (hn2.step No).size
          replace hAs := Step.trans hAs (hn2.step No)
          have ho3 := hn2.own
          have hzhn2 := hn2.size
          have hqhn2 := hn2.eqb
          refine VL_store (b := b2) (o := 0) (vs := [.int .i64 y.p, .int .i64 y.v, .int .i64 y.c]) (by kernel_rfl) (by kernel_rfl) ho3 (Nat.le_of_ble_eq_true (by kernel_rfl)) ?_
          intro w15 hw2
          replace hT := Tb.step hT hw2.step (show ¬ tb1 = b2 by omega)
          replace hS := Step.transNew hS hw2.step (fun _ _ _ => by omega)
          replace hT2 := Tb.step hT2 hw2.step (show ¬ tb2 = b2 by omega)
          replace ho2 := ho2.step hw2.step (show ¬ b1 = b2 by omega)
          replace hbb1 := hbb1.step hw2.step (show ¬ bb1 = b2 by omega)
          replace hML := Nat.le_trans hML (hw2.step).size
          replace hAs := Step.transNew hAs hw2.step (fun _ _ _ => by omega)
          have ho4 : Own w15 b2 #[.int .i64 y.p, .int .i64 y.v, .int .i64 y.c] 29 := Own.cast hw2.own (by kernel_rfl)
          have hzhw2 := hw2.same
          refine VL_end (by kernel_rfl) ?_
          refine VQ_next ?_
          refine VC_region ?_
          refine VL_pure 1 [6, 51, 52, 8, 9] [(6, .pointer (some ⟨b1, 0, none⟩)), (51, .agg #[.int .i64 y.p, .int .i64 y.v, .int .i64 y.c]), (52, .int .i64 y.n), (8, .pointer (some ⟨b2, 0, none⟩)), (9, .int .i64 y.n)] (by kernel_rfl) rfl ?_
          refine VL_end (by kernel_rfl) ?_
          refine VQ_begin hAs ?_
          intro w16 hb1 hzhb1
          have hzl22 := Tb.lt hT
          have hzs15 := hS.size
          have hzl23 := Tb.lt hT2
          have hzl24 := ho2.lt
          have hzl25 := hbb1.lt
          have hzk2 := hML
          have hzl26 := ho4.lt
          replace hT := Tb.step hT hb1 (show ¬ tb1 = (w12.heap.size + 1) by omega)
          replace hS := Step.transNew hS hb1 (fun _ _ _ => by omega)
          replace hT2 := Tb.step hT2 hb1 (show ¬ tb2 = (w12.heap.size + 1) by omega)
          replace ho2 := ho2.step hb1 (show ¬ b1 = (w12.heap.size + 1) by omega)
          replace hbb1 := hbb1.step hb1 (show ¬ bb1 = (w12.heap.size + 1) by omega)
          replace hML := Nat.le_trans hML (hb1).size
          replace ho4 := ho4.step hb1 (show ¬ b2 = (w12.heap.size + 1) by omega)
          have hR1 : Step ((fun M i => i = tb2) M) w16 w16 := Step.refl _ _
          refine VC_block ?_
          refine VC_region ?_
          refine VL_load (d := 53) (t := 24) (a := ⟨b1, 0, none⟩) (v := .pointer (some ⟨tb2, 0, none⟩)) (by kernel_rfl) (by kernel_rfl) (Loads.own1 ho2 (by kernel_rfl) (by rfl)) ?_
          refine VL_load (d := 54) (t := 29) (a := ⟨b2, 0, none⟩) (v := .agg #[.int .i64 y.p, .int .i64 y.v, .int .i64 y.c]) (by kernel_rfl) (by kernel_rfl) (Loads.ownL ho4 (n := 3) (by kernel_rfl) (by kernel_rfl) (by kernel_rfl)) ?_
          refine VL_pure 3 [53, 54, 55] [(53, .pointer (some ⟨tb2, 0, none⟩)), (54, .agg #[.int .i64 y.p, .int .i64 y.v, .int .i64 y.c]), (55, .int .i64 y.n)] (by kernel_rfl) rfl ?_
          have hzl27 := Tb.lt hT
          have hzs16 := hS.size
          have hzl28 := Tb.lt hT2
          have hzl29 := ho2.lt
          have hzl30 := hbb1.lt
          have hzl31 := ho4.lt
          have hzs17 := hR1.size
          refine VL_call (d := 56) (f := 11) (args := #[.pointer (some ⟨tb2, 0, none⟩), .agg #[.int .i64 y.p, .int .i64 y.v, .int .i64 y.c], .int .i64 y.n]) (by kernel_rfl) (by kernel_rfl) (by kernel_rfl) Try.call11 (tput y.p y.v y.c y.n hT2) ?_
          rintro _ w17 ⟨rfl, hT4, hc8⟩
          replace hT := Tb.step hT hc8 (show ¬ tb1 = tb2 by omega)
          replace hS := Step.transNew hS hc8 (fun _ _ _ => by omega)
          replace ho2 := ho2.step hc8 (show ¬ b1 = tb2 by omega)
          replace hbb1 := hbb1.step hc8 (show ¬ bb1 = tb2 by omega)
          replace hML := Nat.le_trans hML (hc8).size
          replace ho4 := ho4.step hc8 (show ¬ b2 = tb2 by omega)
          replace hR1 := Step.trans hR1 (Step.mono hc8 (by intro i hi; first | exact hi | (have hi9 : i = tb2 := hi; (first | show _ ∨ _ | show _ = _); omega)))
          refine VL_end (by kernel_rfl) ?_
          refine VQ_block_normal ?_
          exact VQ_round_end hR1 ⟨hT, hS, (by have h9 := hT4; rw [putE_take hsrt hy (hrt y (List.mem_of_getElem? hy)) hsm] at h9; exact h9), ho2, hbb1⟩
        · intro M w18 hM hzM hJ0 hD
          rw [entV_len, List.take_length] at hJ0
          obtain ⟨hT, hS, hT2, ho2, hbb1⟩ := hJ0
          have hmk1 := hD
          refine VQ_block_normal ?_
          refine VQ_next ?_
          refine VC_seq ?_
          refine VC_region ?_
          refine VL_pure 1 [1, 6, 5, 57] [(1, .slice A2 n2 cc2), (6, .pointer (some ⟨b1, 0, none⟩)), (5, .pointer (some ⟨tb1, 0, none⟩)), (57, .pointer (some ⟨tb1, 0, none⟩))] (by kernel_rfl) rfl ?_
          have hzl32 := Tb.lt hT
          have hzs18 := hS.size
          have hzl33 := Tb.lt hT2
          have hzl34 := ho2.lt
          have hzl35 := hbb1.lt
          have hzl36 := hmk1.lt
          refine VL_call (d := 58) (f := 18) (args := #[.pointer (some ⟨tb1, 0, none⟩)]) (by kernel_rfl) (by kernel_rfl) (by kernel_rfl) Try.call18 (tall hT) ?_
          rintro _ w19 ⟨A1, n1, c1, rfl, hn3, hr1, hc9⟩
          replace hT := Tb.no hT hc9
          replace hS := Step.trans hS hc9
          replace hT2 := Tb.no hT2 hc9
          replace ho2 := ho2.no hc9
          replace hbb1 := hbb1.no hc9
          replace hmk1 := hmk1.no hc9
          have hshn3 := Tb.small hT
          obtain ⟨hi1, hiE1⟩ : ∃ x, x = w19.heap.size := ⟨_, rfl⟩
          obtain ⟨lo1, lo1E⟩ : ∃ x, x = w18.heap.size := ⟨_, rfl⟩
          have hv1 : Sl2 w19 lo1 hi1 A1 (flat Ent.cells L) := by rw [hiE1, lo1E]; exact RwS.sl2 hr1
          have hle1 : hi1 ≤ w19.heap.size := Nat.le_of_eq hiE1
          have hzlo1tb1 : tb1 < lo1 := by rw [lo1E]; omega
          have hzlo1tb2 : tb2 < lo1 := by rw [lo1E]; omega
          refine VL_pure 3 [1, 6, 5, 10] [(1, .slice A2 n2 cc2), (6, .pointer (some ⟨b1, 0, none⟩)), (5, .pointer (some ⟨tb1, 0, none⟩)), (10, .slice A1 n1 c1)] (by kernel_rfl) rfl ?_
          refine VL_end (by kernel_rfl) ?_
          refine VQ_next ?_
          refine VC_seq ?_
          refine VC_region ?_
          refine VL_pure 1 [1, 6, 5, 10, 11] [(1, .slice A2 n2 cc2), (6, .pointer (some ⟨b1, 0, none⟩)), (5, .pointer (some ⟨tb1, 0, none⟩)), (10, .slice A1 n1 c1), (11, .slice none 0 0)] (by kernel_rfl) rfl ?_
          refine VL_end (by kernel_rfl) ?_
          refine VQ_next ?_
          refine VC_seq ?_
          refine VC_seq ?_
          refine VC_region ?_
          refine VL_pure 3 [1, 6, 5, 10, 11, 60, 61] [(1, .slice A2 n2 cc2), (6, .pointer (some ⟨b1, 0, none⟩)), (5, .pointer (some ⟨tb1, 0, none⟩)), (10, .slice A1 n1 c1), (11, .slice none 0 0), (60, .int .i64 ((n2 : Nat) : Int)), (61, .int .i64 0)] (by kernel_rfl) rfl ?_
          refine VL_end (by kernel_rfl) ?_
          refine VQ_next ?_
          refine VC_block ?_
          have hzl37 := Tb.lt hT
          have hzs19 := hS.size
          have hzl38 := Tb.lt hT2
          have hzl39 := ho2.lt
          have hzl40 := hbb1.lt
          have hzl41 := hmk1.lt
          have hzk3 := hle1
          obtain ⟨base9, hb9E⟩ : ∃ x, x = w19.heap.size := ⟨_, rfl⟩
          have hb9 : base9 ≤ w19.heap.size := Nat.le_of_eq hb9E
          have hqb1 : b1 < base9 := by rw [hb9E]; omega
          have hqtb1 : tb1 < base9 := by rw [hb9E]; omega
          have hqtb2 : tb2 < base9 := by rw [hb9E]; omega
          have hqA1 : hi1 ≤ base9 := by rw [hb9E]; omega
          have hwb9 : w.heap.size ≤ base9 := by rw [hb9E]; exact hS.size
          refine VC_loop (σ := Nat × (List Ent) × (List Ent) × (Option Addr) × Nat × Nat) (fun σs => [(1, .slice A2 n2 cc2), (6, .pointer (some ⟨b1, 0, none⟩)), (5, .pointer (some ⟨tb1, 0, none⟩)), (10, .slice A1 n1 c1), (60, .int .i64 ((n2 : Nat) : Int)), (61, .int .i64 ((σs.1 : Nat) : Int)), (11, .slice σs.2.2.2.1 σs.2.2.2.2.1 σs.2.2.2.2.2)]) (fun σs wr => σs.1 ≤ n2 ∧ Und L σs.2.2.1 σs.2.1 ∧ σs.2.2.1.length = σs.2.2.2.2.1 ∧ σs.2.2.2.2.1 ≤ σs.1 ∧ Tb wr tb1 64 σs.2.1 ∧ RwS wr 3 base9 29 σs.2.2.2.1 σs.2.2.2.2.1 σs.2.2.2.2.2 (flat Ent.kcells σs.2.2.1) ∧ (Step No w wr) ∧ (Tb wr tb2 64 L) ∧ (Own wr b1 #[.pointer (some ⟨tb2, 0, none⟩)] 24) ∧ (Dfr wr (w12.heap.size)) ∧ (Sl2 wr lo1 hi1 A1 (flat Ent.cells L)) ∧ (hi1 ≤ wr.heap.size) ∧ (base9 ≤ wr.heap.size)) (fun σs wr => n2 - σs.1) ⟨0, L, [], none, 0, 0⟩ ⟨rfl, rfl, rfl, rfl, rfl, rfl, rfl, trivial⟩ ?_ ?_
          · exact ⟨Nat.zero_le _, Und.nil, rfl, Nat.le_refl _, hT, RwS.nil _ _ _ _, hS, hT2, ho2, hmk1, hv1, hle1, hb9⟩
          rintro ⟨k2, M9, K, AK, nK, cK⟩ wr ⟨hk20, hU, hlK, hnK, hT, hK, hS, hT2, ho2, hmk1, hv1, hle1, hb9⟩
          try dsimp only at hk20 hU hlK hnK hT hK hS hT2 ho2 hmk1 hv1 hle1 hb9 ⊢
          have hsM := hT.srt
          refine VC_seq ?_
          refine VC_region ?_
          refine VL_pure 1 [1, 6, 5, 10, 60, 61, 11, 62] [(1, .slice A2 n2 cc2), (6, .pointer (some ⟨b1, 0, none⟩)), (5, .pointer (some ⟨tb1, 0, none⟩)), (10, .slice A1 n1 c1), (60, .int .i64 ((n2 : Nat) : Int)), (61, .int .i64 ((k2 : Nat) : Int)), (11, .slice AK nK cK), (62, .bool (decide (((k2 : Nat) : Int) < ((n2 : Nat) : Int))))] (by kernel_rfl) rfl ?_
          refine VL_end (by kernel_rfl) ?_
          refine VQ_next ?_
          refine VC_seq ?_
          refine VC_dec (((k2 : Nat) : Int) < ((n2 : Nat) : Int)) (by kernel_rfl) (fun h3 => ?_) (fun h3 => ?_)
          · refine VC_skip ?_
            refine VQ_next ?_
            refine VC_seq ?_
            refine VC_block ?_
            refine VC_seq ?_
            refine VC_region ?_
            refine VL_pure 2 [1, 6, 5, 10, 60, 61, 11, 12] [(1, .slice A2 n2 cc2), (6, .pointer (some ⟨b1, 0, none⟩)), (5, .pointer (some ⟨tb1, 0, none⟩)), (10, .slice A1 n1 c1), (60, .int .i64 ((n2 : Nat) : Int)), (61, .int .i64 ((k2 : Nat) : Int)), (11, .slice AK nK cK), (12, .int .i64 ((k2 : Nat) : Int))] (by kernel_rfl) rfl ?_
            refine VL_end (by kernel_rfl) ?_
            refine VQ_next ?_
            refine VC_seq ?_
            have hk2 : k2 < n2 := by omega
            obtain ⟨lb2, lo2, rfl, hL2⟩ := hA2 (by omega)
            replace hL2 : OpsB w lb2 lo2 n2 q2 := hL2
            refine VC_det [[], [], [], [1, 2], [1, 2, 3], [1, 2, 3, 4], [], [], [6, 7], [6, 7, 8], [6, 7, 8, 9], [0, 1, 2, 3, 4, 5, 6, 7, 8, 9, 10], [0, 1, 2, 3, 4, 5, 6, 7, 8, 9, 10, 11]] 11 [.pointer (some ⟨tb1, 0, none⟩), .slice (some ⟨lb2, lo2, none⟩) n2 cc2, .int .i64 ((k2 : Nat) : Int), .pointer (some ⟨lb2, lo2 + k2 * 4, none⟩), .pointer (some ⟨lb2, lo2 + k2 * 4, none⟩), .agg #[.int .i64 ((q2 k2).p), .int .i64 ((q2 k2).v), .int .i64 ((q2 k2).c)], .slice (some ⟨lb2, lo2, none⟩) n2 cc2, .int .i64 ((k2 : Nat) : Int), .pointer (some ⟨lb2, lo2 + k2 * 4, none⟩), .pointer (some ⟨lb2, lo2 + k2 * 4 + 3, none⟩), .int .i64 ((q2 k2).n)] [0, 1, 2, 4, 6, 7, 9] [3, 5, 8, 10] (by kernel_rfl) (by kernel_rfl) (by kernel_rfl) (by kernel_rfl) ?_ ?_
            · intro w20 hs2
              replace hT := Tb.no hT hs2
              replace hK := hK.no hs2
              replace hS := Step.trans hS hs2
              replace hT2 := Tb.no hT2 hs2
              replace ho2 := ho2.no hs2
              replace hmk1 := hmk1.no hs2
              replace hv1 := hv1.step hs2 (fun k hk1 hk2 hF => hF)
              replace hle1 := Nat.le_trans hle1 (hs2).size
              replace hb9 := Nat.le_trans hb9 (hs2).size
              exact ⟨Det1_index (d := 67) (b := lb2) (o := lo2) (len := n2) (sz := 4) (m := ((k2 : Nat) : Int)) (by kernel_rfl) (by kernel_rfl) k2 (by rfl) (by omega) (lo2 + k2 * 4) (by omega), Det1_load (d := 69) (t := 29) (a := ⟨lb2, lo2 + k2 * 4, none⟩) (by kernel_rfl) (by kernel_rfl) (hL2.key hS (by kernel_rfl) k2 hk2), Det1_index (d := 72) (b := lb2) (o := lo2) (len := n2) (sz := 4) (m := ((k2 : Nat) : Int)) (by kernel_rfl) (by kernel_rfl) k2 (by rfl) (by omega) (lo2 + k2 * 4) (by omega), Det1_load (d := 74) (t := 3) (a := ⟨lb2, lo2 + k2 * 4 + 3, none⟩) (by kernel_rfl) (by kernel_rfl) (hL2.num hS (by kernel_rfl) k2 hk2), trivial⟩
            intro w20 hs2
            replace hT := Tb.no hT hs2
            replace hK := hK.no hs2
            replace hS := Step.trans hS hs2
            replace hT2 := Tb.no hT2 hs2
            replace ho2 := ho2.no hs2
            replace hmk1 := hmk1.no hs2
            replace hv1 := hv1.step hs2 (fun k hk1 hk2 hF => hF)
            replace hle1 := Nat.le_trans hle1 (hs2).size
            replace hb9 := Nat.le_trans hb9 (hs2).size
            refine VL_keep [1, 6, 5, 10, 60, 61, 11, 12, 64, 69, 74] [(1, .slice (some ⟨lb2, lo2, none⟩) n2 cc2), (6, .pointer (some ⟨b1, 0, none⟩)), (5, .pointer (some ⟨tb1, 0, none⟩)), (10, .slice A1 n1 c1), (60, .int .i64 ((n2 : Nat) : Int)), (61, .int .i64 ((k2 : Nat) : Int)), (11, .slice AK nK cK), (12, .int .i64 ((k2 : Nat) : Int)), (64, .pointer (some ⟨tb1, 0, none⟩)), (69, .agg #[.int .i64 ((q2 k2).p), .int .i64 ((q2 k2).v), .int .i64 ((q2 k2).c)]), (74, .int .i64 ((q2 k2).n))] (by kernel_rfl) ?_
            have hzl42 := Tb.lt hT
            have hzs20 := hS.size
            have hzl43 := Tb.lt hT2
            have hzl44 := ho2.lt
            have hzl45 := hmk1.lt
            refine VL_call (d := 75) (f := 11) (args := #[.pointer (some ⟨tb1, 0, none⟩), .agg #[.int .i64 ((q2 k2).p), .int .i64 ((q2 k2).v), .int .i64 ((q2 k2).c)], .int .i64 ((q2 k2).n)]) (by kernel_rfl) (by kernel_rfl) (by kernel_rfl) Try.call11 (tput ((q2 k2).p) ((q2 k2).v) ((q2 k2).c) ((q2 k2).n) hT) ?_
            rintro _ w21 ⟨rfl, hT5, hc10⟩
            replace hK := hK.step hc10 (fun k hk (hF : k = tb1) => by omega)
            replace hS := Step.transNew hS hc10 (fun _ _ _ => by omega)
            replace hT2 := Tb.step hT2 hc10 (show ¬ tb2 = tb1 by omega)
            replace ho2 := ho2.step hc10 (show ¬ b1 = tb1 by omega)
            replace hmk1 := hmk1.step hc10 (show ¬ w12.heap.size = tb1 by omega)
            replace hv1 := hv1.step hc10 (fun k hk1 hk2 (hF : k = tb1) => by omega)
            replace hle1 := Nat.le_trans hle1 (hc10).size
            replace hb9 := Nat.le_trans hb9 (hc10).size
            refine VL_pure 13 [1, 6, 5, 10, 60, 61, 11, 12, 76] [(1, .slice (some ⟨lb2, lo2, none⟩) n2 cc2), (6, .pointer (some ⟨b1, 0, none⟩)), (5, .pointer (some ⟨tb1, 0, none⟩)), (10, .slice A1 n1 c1), (60, .int .i64 ((n2 : Nat) : Int)), (61, .int .i64 ((k2 : Nat) : Int)), (11, .slice AK nK cK), (12, .int .i64 ((k2 : Nat) : Int)), (76, .bool ((putK M9 64 ((q2 k2).p) ((q2 k2).v) ((q2 k2).c)) == 0))] (by kernel_rfl) rfl ?_
            refine VL_end (by kernel_rfl) ?_
            refine VQ_next ?_
            refine VC_eq (putK M9 64 ((q2 k2).p) ((q2 k2).v) ((q2 k2).c)) 0 (by kernel_rfl) (fun h4 => ?_) (fun h4 => ?_)
            · refine VC_region ?_
              refine VL_pure 3 [1, 6, 5, 10, 60, 61, 77, 78, 79] [(1, .slice (some ⟨lb2, lo2, none⟩) n2 cc2), (6, .pointer (some ⟨b1, 0, none⟩)), (5, .pointer (some ⟨tb1, 0, none⟩)), (10, .slice A1 n1 c1), (60, .int .i64 ((n2 : Nat) : Int)), (61, .int .i64 ((k2 : Nat) : Int)), (77, .slice AK nK cK), (78, .slice (some ⟨lb2, lo2, none⟩) n2 cc2), (79, .int .i64 ((k2 : Nat) : Int))] (by kernel_rfl) rfl ?_
              refine VL_index (d := 80) (b := lb2) (o := lo2) (len := n2) (sz := 4) (m := ((k2 : Nat) : Int)) (by kernel_rfl) (by kernel_rfl) k2 (by rfl) (by omega) (lo2 + k2 * 4) (by omega) ?_
              refine VL_pure 5 [1, 6, 5, 10, 60, 61, 77, 81] [(1, .slice (some ⟨lb2, lo2, none⟩) n2 cc2), (6, .pointer (some ⟨b1, 0, none⟩)), (5, .pointer (some ⟨tb1, 0, none⟩)), (10, .slice A1 n1 c1), (60, .int .i64 ((n2 : Nat) : Int)), (61, .int .i64 ((k2 : Nat) : Int)), (77, .slice AK nK cK), (81, .pointer (some ⟨lb2, lo2 + k2 * 4, none⟩))] (by kernel_rfl) rfl ?_
              refine VL_load (d := 82) (t := 29) (a := ⟨lb2, lo2 + k2 * 4, none⟩) (v := .agg #[.int .i64 ((q2 k2).p), .int .i64 ((q2 k2).v), .int .i64 ((q2 k2).c)]) (by kernel_rfl) (by kernel_rfl) (hL2.key hS (by kernel_rfl) k2 hk2) ?_
              have hzs21 := hS.size
              have hzl46 := Tb.lt hT2
              have hzl47 := ho2.lt
              have hzl48 := hmk1.lt
              have hzk4 := hle1
              have hzk5 := hb9
              have hzl49 := Tb.lt hT5
              refine VL_bs (d := 83) (e := 29) (c := #[.int .i64 ((q2 k2).p), .int .i64 ((q2 k2).v), .int .i64 ((q2 k2).c)]) (len := 1) (by kernel_rfl) (by kernel_rfl) ?_
              intro b3 w22 hn4
              replace hK := hK.no (hn4.step No)
              replace hS := Step.trans hS (hn4.step No)
              replace hT2 := Tb.no hT2 (hn4.step No)
              replace ho2 := ho2.no (hn4.step No)
              replace hmk1 := hmk1.no (hn4.step No)
              replace hv1 := hv1.step (hn4.step No) (fun k hk1 hk2 hF => hF)
              replace hle1 := Nat.le_trans hle1 (hn4.step No).size
              replace hb9 := Nat.le_trans hb9 (hn4.step No).size
              replace hT5 := Tb.no hT5 (hn4.step No)
              have ho5 := hn4.own
              have hzhn4 := hn4.size
              have hqhn4 := hn4.eqb
              have hzs22 := hS.size
              have hzl50 := Tb.lt hT2
              have hzl51 := ho2.lt
              have hzl52 := hmk1.lt
              have hzk6 := hle1
              have hzk7 := hb9
              have hzl53 := Tb.lt hT5
              have hzl54 := ho5.lt
              refine VL_appendZ (d := 84) (e := 29) (A := AK) (m := nK) (c := cK) (A2 := (some ⟨b3, 0, none⟩)) (m2 := 1) (c2 := 1) (sz := 3) (bytes := 24) (by kernel_rfl) (by kernel_rfl) (by kernel_rfl) base9 w22.heap.size (flat Ent.kcells K) (flat Ent.kcells [(⟨(q2 k2).p, (q2 k2).v, (q2 k2).c, 0⟩ : Ent)]) hK (by rw [flat_one, kcells_len]) (Sl.mono (Sl.cast (Own.sl ho5 ho5.lt) (by first | rfl | simp [flat])) (by first | exact Nat.le_refl _ | omega)) (flat_one' kcells_one _) (nK + 1) (by omega) (by simp only [maxLen]; omega) (by omega) (by omega) ?_
              intro A2 c2 w23 hr2 hg2
              replace hr2 : RwS w23 3 base9 29 A2 (nK + 1) c2 (flat Ent.kcells (K ++ ([(⟨(q2 k2).p, (q2 k2).v, (q2 k2).c, 0⟩ : Ent)]))) := RwS.cast hr2 rfl (by simp only [flat_append, flat_one, List.append_assoc, List.nil_append, List.append_nil, show flat Ent.kcells [] = [] from rfl])
              replace hg2 := Step.mono (G := fun k => base9 ≤ k) hg2 (fun i hi => (RwS.lt hK i hi).1)
              have hzhg2 := hg2.size
              replace hS := Step.transNew hS hg2 (fun i hi hG => by (try simp only at hG); omega)
              replace hT2 := Tb.step hT2 hg2 (by (try simp only); omega)
              replace ho2 := ho2.step hg2 (by (try simp only); omega)
              replace hmk1 := hmk1.step hg2 (by (try simp only); omega)
              replace hv1 := hv1.step hg2 (fun k hk1 hk2 hG => by (try simp only at hG); omega)
              replace hle1 := Nat.le_trans hle1 (hg2).size
              replace hb9 := Nat.le_trans hb9 (hg2).size
              replace hT5 := Tb.step hT5 hg2 (by (try simp only); omega)
              have hlhr2 : (K ++ ([(⟨(q2 k2).p, (q2 k2).v, (q2 k2).c, 0⟩ : Ent)])).length = nK + 1 := by have hq9 := RwS.len hr2; rw [flat_len kcells_len] at hq9; omega
              refine VL_pure 9 [1, 6, 5, 10, 60, 61, 11] [(1, .slice (some ⟨lb2, lo2, none⟩) n2 cc2), (6, .pointer (some ⟨b1, 0, none⟩)), (5, .pointer (some ⟨tb1, 0, none⟩)), (10, .slice A1 n1 c1), (60, .int .i64 ((n2 : Nat) : Int)), (61, .int .i64 ((k2 : Nat) : Int)), (11, .slice A2 (nK + 1) c2)] (by kernel_rfl) rfl ?_
              refine VL_end (by kernel_rfl) ?_
              refine VQ_block_normal ?_
              refine VQ_next ?_
              refine VC_region ?_
              refine VL_pure 1 [1, 6, 5, 10, 60, 11, 85] [(1, .slice (some ⟨lb2, lo2, none⟩) n2 cc2), (6, .pointer (some ⟨b1, 0, none⟩)), (5, .pointer (some ⟨tb1, 0, none⟩)), (10, .slice A1 n1 c1), (60, .int .i64 ((n2 : Nat) : Int)), (11, .slice A2 (nK + 1) c2), (85, .int .i64 (IntKind.wrap .i64 (((k2 : Nat) : Int) + 1)))] (by kernel_rfl) rfl ?_
              have he2 : IntKind.wrap .i64 (((k2 : Nat) : Int) + 1) = ((k2 + 1 : Nat) : Int) := (by rw [wrap_i64 _ (by omega) (by omega)]; omega)
              refine VL_eq [(1, .slice (some ⟨lb2, lo2, none⟩) n2 cc2), (6, .pointer (some ⟨b1, 0, none⟩)), (5, .pointer (some ⟨tb1, 0, none⟩)), (10, .slice A1 n1 c1), (60, .int .i64 ((n2 : Nat) : Int)), (11, .slice A2 (nK + 1) c2), (85, .int .i64 ((k2 + 1 : Nat) : Int))] (by rw [he2]) ?_
              refine VL_pure 2 [1, 6, 5, 10, 60, 11, 61] [(1, .slice (some ⟨lb2, lo2, none⟩) n2 cc2), (6, .pointer (some ⟨b1, 0, none⟩)), (5, .pointer (some ⟨tb1, 0, none⟩)), (10, .slice A1 n1 c1), (60, .int .i64 ((n2 : Nat) : Int)), (11, .slice A2 (nK + 1) c2), (61, .int .i64 ((k2 + 1 : Nat) : Int))] (by kernel_rfl) rfl ?_
              refine VL_end (by kernel_rfl) ?_
              refine VQ_again (⟨k2 + 1, (putE M9 64 ((q2 k2).p) ((q2 k2).v) ((q2 k2).c) ((q2 k2).n)), K ++ ([(⟨(q2 k2).p, (q2 k2).v, (q2 k2).c, 0⟩ : Ent)]), A2, nK + 1, c2⟩) ⟨rfl, rfl, rfl, rfl, rfl, rfl, rfl, trivial⟩ ?_ ?_
              · exact ⟨(by (try dsimp only); omega), Und.put _ hU hsM (by first | assumption | simp_all), hlhr2, (by (try dsimp only); omega), hT5, hr2, hS, hT2, ho2, hmk1, hv1, hle1, hb9⟩
              · (try dsimp only); omega
            · refine VC_skip ?_
              refine VQ_block_normal ?_
              refine VQ_next ?_
              refine VC_region ?_
              refine VL_pure 1 [1, 6, 5, 10, 60, 11, 85] [(1, .slice (some ⟨lb2, lo2, none⟩) n2 cc2), (6, .pointer (some ⟨b1, 0, none⟩)), (5, .pointer (some ⟨tb1, 0, none⟩)), (10, .slice A1 n1 c1), (60, .int .i64 ((n2 : Nat) : Int)), (11, .slice AK nK cK), (85, .int .i64 (IntKind.wrap .i64 (((k2 : Nat) : Int) + 1)))] (by kernel_rfl) rfl ?_
              have he3 : IntKind.wrap .i64 (((k2 : Nat) : Int) + 1) = ((k2 + 1 : Nat) : Int) := (by rw [wrap_i64 _ (by omega) (by omega)]; omega)
              refine VL_eq [(1, .slice (some ⟨lb2, lo2, none⟩) n2 cc2), (6, .pointer (some ⟨b1, 0, none⟩)), (5, .pointer (some ⟨tb1, 0, none⟩)), (10, .slice A1 n1 c1), (60, .int .i64 ((n2 : Nat) : Int)), (11, .slice AK nK cK), (85, .int .i64 ((k2 + 1 : Nat) : Int))] (by rw [he3]) ?_
              refine VL_pure 2 [1, 6, 5, 10, 60, 11, 61] [(1, .slice (some ⟨lb2, lo2, none⟩) n2 cc2), (6, .pointer (some ⟨b1, 0, none⟩)), (5, .pointer (some ⟨tb1, 0, none⟩)), (10, .slice A1 n1 c1), (60, .int .i64 ((n2 : Nat) : Int)), (11, .slice AK nK cK), (61, .int .i64 ((k2 + 1 : Nat) : Int))] (by kernel_rfl) rfl ?_
              refine VL_end (by kernel_rfl) ?_
              refine VQ_again ⟨k2 + 1, M9, K, AK, nK, cK⟩ ⟨rfl, rfl, rfl, rfl, rfl, rfl, rfl, trivial⟩ ?_ ?_
              · exact ⟨(by (try dsimp only); omega), hU, hlK, (by (try dsimp only); omega), (by have h9 := hT5; rw [putE_no (by first | assumption | (intro e9; simp_all))] at h9; exact h9), hK, hS, hT2, ho2, hmk1, hv1, hle1, hb9⟩
              · (try dsimp only); omega
          · refine VC_exit ?_
            refine VQ_then_exit ?_
            refine VQ_then_exit ?_
            refine VQ_block_hit ?_
            refine VQ_next ?_
            refine VC_seq ?_
            refine VC_seq ?_
            refine VC_region ?_
            refine VL_pure 3 [6, 5, 10, 11, 87, 88] [(6, .pointer (some ⟨b1, 0, none⟩)), (5, .pointer (some ⟨tb1, 0, none⟩)), (10, .slice A1 n1 c1), (11, .slice AK nK cK), (87, .int .i64 ((nK : Nat) : Int)), (88, .int .i64 0)] (by kernel_rfl) rfl ?_
            refine VL_end (by kernel_rfl) ?_
            refine VQ_next ?_
            refine VC_block ?_
            refine VC_loop (σ := Nat × (List Ent)) (fun σs => [(6, .pointer (some ⟨b1, 0, none⟩)), (5, .pointer (some ⟨tb1, 0, none⟩)), (10, .slice A1 n1 c1), (11, .slice AK nK cK), (87, .int .i64 ((nK : Nat) : Int)), (88, .int .i64 ((σs.1 : Nat) : Int))]) (fun σs wr => σs.1 ≤ nK ∧ Und L (K.take (nK - σs.1)) σs.2 ∧ Tb wr tb1 64 σs.2 ∧ (RwS wr 3 base9 29 AK nK cK (flat Ent.kcells K)) ∧ (Step No w wr) ∧ (Tb wr tb2 64 L) ∧ (Own wr b1 #[.pointer (some ⟨tb2, 0, none⟩)] 24) ∧ (Dfr wr (w12.heap.size)) ∧ (Sl2 wr lo1 hi1 A1 (flat Ent.cells L)) ∧ (hi1 ≤ wr.heap.size) ∧ (base9 ≤ wr.heap.size)) (fun σs wr => nK - σs.1) ⟨0, M9⟩ ⟨rfl, rfl, rfl, rfl, rfl, rfl, trivial⟩ ?_ ?_
            · exact ⟨Nat.zero_le _, (by rw [Nat.sub_zero, ← hlK, List.take_length]; exact hU), hT, hK, hS, hT2, ho2, hmk1, hv1, hle1, hb9⟩
            rintro ⟨i, M8⟩ wr ⟨hi0, hU8, hT, hK, hS, hT2, ho2, hmk1, hv1, hle1, hb9⟩
            try dsimp only at hi0 hU8 hT hK hS hT2 ho2 hmk1 hv1 hle1 hb9 ⊢
            refine VC_seq ?_
            refine VC_region ?_
            refine VL_pure 1 [6, 5, 10, 11, 87, 88, 89] [(6, .pointer (some ⟨b1, 0, none⟩)), (5, .pointer (some ⟨tb1, 0, none⟩)), (10, .slice A1 n1 c1), (11, .slice AK nK cK), (87, .int .i64 ((nK : Nat) : Int)), (88, .int .i64 ((i : Nat) : Int)), (89, .bool (decide (((i : Nat) : Int) < ((nK : Nat) : Int))))] (by kernel_rfl) rfl ?_
            refine VL_end (by kernel_rfl) ?_
            refine VQ_next ?_
            refine VC_seq ?_
            refine VC_dec (((i : Nat) : Int) < ((nK : Nat) : Int)) (by kernel_rfl) (fun h5 => ?_) (fun h5 => ?_)
            · refine VC_skip ?_
              refine VQ_next ?_
              refine VC_seq ?_
              refine VC_block ?_
              refine VC_seq ?_
              refine VC_region ?_
              refine VL_pure 2 [6, 5, 10, 11, 87, 88, 13] [(6, .pointer (some ⟨b1, 0, none⟩)), (5, .pointer (some ⟨tb1, 0, none⟩)), (10, .slice A1 n1 c1), (11, .slice AK nK cK), (87, .int .i64 ((nK : Nat) : Int)), (88, .int .i64 ((i : Nat) : Int)), (13, .int .i64 ((i : Nat) : Int))] (by kernel_rfl) rfl ?_
              refine VL_end (by kernel_rfl) ?_
              refine VQ_next ?_
              refine VC_seq ?_
              refine VC_region ?_
              refine VL_pure 5 [6, 5, 10, 11, 87, 88, 13, 92, 93, 96] [(6, .pointer (some ⟨b1, 0, none⟩)), (5, .pointer (some ⟨tb1, 0, none⟩)), (10, .slice A1 n1 c1), (11, .slice AK nK cK), (87, .int .i64 ((nK : Nat) : Int)), (88, .int .i64 ((i : Nat) : Int)), (13, .int .i64 ((i : Nat) : Int)), (92, .pointer (some ⟨tb1, 0, none⟩)), (93, .slice AK nK cK), (96, .int .i64 (IntKind.wrap .i64 (((nK : Nat) : Int) - 1)))] (by kernel_rfl) rfl ?_
              have he4 : IntKind.wrap .i64 (((nK : Nat) : Int) - 1) = ((nK - 1 : Nat) : Int) := (by rw [wrap_i64 _ (by omega) (by omega)]; omega)
              refine VL_eq [(6, .pointer (some ⟨b1, 0, none⟩)), (5, .pointer (some ⟨tb1, 0, none⟩)), (10, .slice A1 n1 c1), (11, .slice AK nK cK), (87, .int .i64 ((nK : Nat) : Int)), (88, .int .i64 ((i : Nat) : Int)), (13, .int .i64 ((i : Nat) : Int)), (92, .pointer (some ⟨tb1, 0, none⟩)), (93, .slice AK nK cK), (96, .int .i64 ((nK - 1 : Nat) : Int))] (by rw [he4]) ?_
              refine VL_pure 7 [6, 5, 10, 11, 87, 88, 92, 93, 98] [(6, .pointer (some ⟨b1, 0, none⟩)), (5, .pointer (some ⟨tb1, 0, none⟩)), (10, .slice A1 n1 c1), (11, .slice AK nK cK), (87, .int .i64 ((nK : Nat) : Int)), (88, .int .i64 ((i : Nat) : Int)), (92, .pointer (some ⟨tb1, 0, none⟩)), (93, .slice AK nK cK), (98, .int .i64 (IntKind.wrap .i64 (((nK - 1 : Nat) : Int) - ((i : Nat) : Int))))] (by kernel_rfl) rfl ?_
              have he5 : IntKind.wrap .i64 (((nK - 1 : Nat) : Int) - ((i : Nat) : Int)) = (((nK - 1) - i : Nat) : Int) := (by rw [wrap_i64 _ (by omega) (by omega)]; omega)
              refine VL_eq [(6, .pointer (some ⟨b1, 0, none⟩)), (5, .pointer (some ⟨tb1, 0, none⟩)), (10, .slice A1 n1 c1), (11, .slice AK nK cK), (87, .int .i64 ((nK : Nat) : Int)), (88, .int .i64 ((i : Nat) : Int)), (92, .pointer (some ⟨tb1, 0, none⟩)), (93, .slice AK nK cK), (98, .int .i64 (((nK - 1) - i : Nat) : Int))] (by rw [he5]) ?_
              obtain ⟨g1, cur1, rfl, hgbg1, hglg1, -⟩ := RwS.open hK (by omega)
              refine VL_index (d := 99) (b := g1) (o := 0) (len := nK) (sz := 3) (m := (((nK - 1) - i : Nat) : Int)) (by kernel_rfl) (by kernel_rfl) ((nK - 1) - i) (by rfl) (by omega) (((nK - 1) - i) * 3) (by omega) ?_
              obtain ⟨y1, hy1⟩ : ∃ x, K[((nK - 1) - i)]? = some x := ⟨_, List.getElem?_eq_getElem (by have hq9 : K.length = nK := hlK; omega)⟩
              refine VL_load (d := 100) (t := 29) (a := ⟨g1, ((nK - 1) - i) * 3, none⟩) (v := .agg #[.int .i64 y1.p, .int .i64 y1.v, .int .i64 y1.c]) (by kernel_rfl) (by kernel_rfl) (Sl.flatAgg (sz := 3) (RwS.sl2 hK).sl kcells_len hy1 0 3 (by kernel_rfl) (by decide) _ (by first | rfl | omega)) ?_
              have hzl55 := Tb.lt hT
              have hzs23 := hS.size
              have hzl56 := Tb.lt hT2
              have hzl57 := ho2.lt
              have hzl58 := hmk1.lt
              refine VL_call (d := 101) (f := 16) (args := #[.pointer (some ⟨tb1, 0, none⟩), .agg #[.int .i64 y1.p, .int .i64 y1.v, .int .i64 y1.c]]) (by kernel_rfl) (by kernel_rfl) (by kernel_rfl) Try.call16 (tdrop y1.p y1.v y1.c hT) ?_
              rintro _ w24 ⟨rfl, hT6, hc11⟩
              replace hK := hK.keepG hc11 (show ¬ g1 = tb1 by omega)
              replace hS := Step.transNew hS hc11 (fun _ _ _ => by omega)
              replace hT2 := Tb.step hT2 hc11 (show ¬ tb2 = tb1 by omega)
              replace ho2 := ho2.step hc11 (show ¬ b1 = tb1 by omega)
              replace hmk1 := hmk1.step hc11 (show ¬ w12.heap.size = tb1 by omega)
              replace hv1 := hv1.step hc11 (fun k hk1 hk2 (hF : k = tb1) => by omega)
              replace hle1 := Nat.le_trans hle1 (hc11).size
              replace hb9 := Nat.le_trans hb9 (hc11).size
              replace hglg1 := Nat.lt_of_lt_of_le hglg1 (hc11).size
              refine VL_pure 15 [6, 5, 10, 11, 87, 88, 15] [(6, .pointer (some ⟨b1, 0, none⟩)), (5, .pointer (some ⟨tb1, 0, none⟩)), (10, .slice A1 n1 c1), (11, .slice (some ⟨g1, 0, none⟩) nK cK), (87, .int .i64 ((nK : Nat) : Int)), (88, .int .i64 ((i : Nat) : Int)), (15, .bool ((lookE M8 y1.p y1.v y1.c).isSome))] (by kernel_rfl) rfl ?_
              refine VL_end (by kernel_rfl) ?_
              refine VQ_next ?_
              refine VC_seq ?_
              have hD9 := Und.drop (j := nK - 1 - i) (by rw [show nK - 1 - i + 1 = nK - i by omega]; exact hU8) hy1
              refine VC_region ?_
              refine VL_pure 2 [6, 5, 10, 11, 87, 88, 105] [(6, .pointer (some ⟨b1, 0, none⟩)), (5, .pointer (some ⟨tb1, 0, none⟩)), (10, .slice A1 n1 c1), (11, .slice (some ⟨g1, 0, none⟩) nK cK), (87, .int .i64 ((nK : Nat) : Int)), (88, .int .i64 ((i : Nat) : Int)), (105, .bool (!((lookE M8 y1.p y1.v y1.c).isSome)))] (by kernel_rfl) rfl ?_
              refine VL_end (by kernel_rfl) ?_
              refine VQ_next ?_
              refine VC_is (b := !((lookE M8 y1.p y1.v y1.c).isSome)) false (by kernel_rfl) (by rw [hD9.1]; rfl) ?_
              refine VC_ite_false ?_
              refine VC_skip ?_
              refine VQ_block_normal ?_
              refine VQ_next ?_
              refine VC_region ?_
              refine VL_pure 1 [6, 5, 10, 11, 87, 106] [(6, .pointer (some ⟨b1, 0, none⟩)), (5, .pointer (some ⟨tb1, 0, none⟩)), (10, .slice A1 n1 c1), (11, .slice (some ⟨g1, 0, none⟩) nK cK), (87, .int .i64 ((nK : Nat) : Int)), (106, .int .i64 (IntKind.wrap .i64 (((i : Nat) : Int) + 1)))] (by kernel_rfl) rfl ?_
              have he6 : IntKind.wrap .i64 (((i : Nat) : Int) + 1) = ((i + 1 : Nat) : Int) := (by rw [wrap_i64 _ (by omega) (by omega)]; omega)
              refine VL_eq [(6, .pointer (some ⟨b1, 0, none⟩)), (5, .pointer (some ⟨tb1, 0, none⟩)), (10, .slice A1 n1 c1), (11, .slice (some ⟨g1, 0, none⟩) nK cK), (87, .int .i64 ((nK : Nat) : Int)), (106, .int .i64 ((i + 1 : Nat) : Int))] (by rw [he6]) ?_
              refine VL_pure 2 [6, 5, 10, 11, 87, 88] [(6, .pointer (some ⟨b1, 0, none⟩)), (5, .pointer (some ⟨tb1, 0, none⟩)), (10, .slice A1 n1 c1), (11, .slice (some ⟨g1, 0, none⟩) nK cK), (87, .int .i64 ((nK : Nat) : Int)), (88, .int .i64 ((i + 1 : Nat) : Int))] (by kernel_rfl) rfl ?_
              refine VL_end (by kernel_rfl) ?_
              refine VQ_again ⟨i + 1, (delE M8 y1.p y1.v y1.c)⟩ ⟨rfl, rfl, rfl, rfl, rfl, rfl, trivial⟩ ?_ ?_
              · exact ⟨by omega, (by rw [show nK - (i + 1) = nK - 1 - i by omega]; exact hD9.2), hT6, hK, hS, hT2, ho2, hmk1, hv1, hle1, hb9⟩
              · (try dsimp only); omega
            · refine VC_exit ?_
              refine VQ_then_exit ?_
              refine VQ_then_exit ?_
              refine VQ_block_hit ?_
              refine VQ_next ?_
              refine VC_seq ?_
              have hML : M8 = L := Und.empty (by have h9 := hU8; rw [show nK - i = 0 by omega, List.take_zero] at h9; exact h9)
              rw [hML] at hT
              refine VC_region ?_
              refine VL_pure 1 [6, 10, 107] [(6, .pointer (some ⟨b1, 0, none⟩)), (10, .slice A1 n1 c1), (107, .pointer (some ⟨tb1, 0, none⟩))] (by kernel_rfl) rfl ?_
              have hzl59 := Tb.lt hT
              have hzs24 := hS.size
              have hzl60 := Tb.lt hT2
              have hzl61 := ho2.lt
              have hzl62 := hmk1.lt
              refine VL_call (d := 108) (f := 18) (args := #[.pointer (some ⟨tb1, 0, none⟩)]) (by kernel_rfl) (by kernel_rfl) (by kernel_rfl) Try.call18 (tall hT) ?_
              rintro _ w25 ⟨A3, n2, c3, rfl, hn5, hr3, hc12⟩
              replace hT := Tb.no hT hc12
              replace hK := hK.no hc12
              replace hS := Step.trans hS hc12
              replace hT2 := Tb.no hT2 hc12
              replace ho2 := ho2.no hc12
              replace hmk1 := hmk1.no hc12
              replace hv1 := hv1.step hc12 (fun k hk1 hk2 hF => hF)
              replace hle1 := Nat.le_trans hle1 (hc12).size
              replace hb9 := Nat.le_trans hb9 (hc12).size
              have hshn5 := Tb.small hT
              obtain ⟨hi2, hiE2⟩ : ∃ x, x = w25.heap.size := ⟨_, rfl⟩
              obtain ⟨lo2, lo2E⟩ : ∃ x, x = wr.heap.size := ⟨_, rfl⟩
              have hv2 : Sl2 w25 lo2 hi2 A3 (flat Ent.cells L) := by rw [hiE2, lo2E]; exact RwS.sl2 hr3
              have hle2 : hi2 ≤ w25.heap.size := Nat.le_of_eq hiE2
              have hzlo2tb1 : tb1 < lo2 := by rw [lo2E]; omega
              have hzlo2tb2 : tb2 < lo2 := by rw [lo2E]; omega
              refine VL_pure 3 [6, 10, 108, 109] [(6, .pointer (some ⟨b1, 0, none⟩)), (10, .slice A1 n1 c1), (108, .slice A3 n2 c3), (109, .slice A1 n1 c1)] (by kernel_rfl) rfl ?_
              have hzl63 := Tb.lt hT
              have hzs25 := hS.size
              have hzl64 := Tb.lt hT2
              have hzl65 := ho2.lt
              have hzl66 := hmk1.lt
              refine VL_call (d := 110) (f := 19) (args := #[.slice A3 n2 c3, .slice A1 n1 c1]) (by kernel_rfl) (by kernel_rfl) (by kernel_rfl) Try.call19 (lsame_refl hn5 hn3 (Sl2.sl hv2) (Sl2.sl hv1) (by omega) (by omega)) ?_
              rintro _ w26 ⟨rfl, hc13⟩
              replace hT := Tb.no hT hc13
              replace hK := hK.no hc13
              replace hS := Step.trans hS hc13
              replace hT2 := Tb.no hT2 hc13
              replace ho2 := ho2.no hc13
              replace hmk1 := hmk1.no hc13
              replace hv1 := hv1.step hc13 (fun k hk1 hk2 hF => hF)
              replace hle1 := Nat.le_trans hle1 (hc13).size
              replace hb9 := Nat.le_trans hb9 (hc13).size
              replace hv2 := hv2.step hc13 (fun k hk1 hk2 hF => hF)
              replace hle2 := Nat.le_trans hle2 (hc13).size
              refine VL_pure 5 [6, 10, 111] [(6, .pointer (some ⟨b1, 0, none⟩)), (10, .slice A1 n1 c1), (111, .bool true)] (by kernel_rfl) rfl ?_
              refine VL_load (d := 112) (t := 24) (a := ⟨b1, 0, none⟩) (v := .pointer (some ⟨tb2, 0, none⟩)) (by kernel_rfl) (by kernel_rfl) (Loads.own1 ho2 (by kernel_rfl) (by rfl)) ?_
              have hzl67 := Tb.lt hT
              have hzs26 := hS.size
              have hzl68 := Tb.lt hT2
              have hzl69 := ho2.lt
              have hzl70 := hmk1.lt
              refine VL_call (d := 113) (f := 18) (args := #[.pointer (some ⟨tb2, 0, none⟩)]) (by kernel_rfl) (by kernel_rfl) (by kernel_rfl) Try.call18 (tall hT2) ?_
              rintro _ w27 ⟨A4, n3, c4, rfl, hn6, hr4, hc14⟩
              replace hT := Tb.no hT hc14
              replace hK := hK.no hc14
              replace hS := Step.trans hS hc14
              replace hT2 := Tb.no hT2 hc14
              replace ho2 := ho2.no hc14
              replace hmk1 := hmk1.no hc14
              replace hv1 := hv1.step hc14 (fun k hk1 hk2 hF => hF)
              replace hle1 := Nat.le_trans hle1 (hc14).size
              replace hb9 := Nat.le_trans hb9 (hc14).size
              replace hv2 := hv2.step hc14 (fun k hk1 hk2 hF => hF)
              replace hle2 := Nat.le_trans hle2 (hc14).size
              have hshn6 := Tb.small hT2
              obtain ⟨hi3, hiE3⟩ : ∃ x, x = w27.heap.size := ⟨_, rfl⟩
              obtain ⟨lo3, lo3E⟩ : ∃ x, x = w26.heap.size := ⟨_, rfl⟩
              have hv3 : Sl2 w27 lo3 hi3 A4 (flat Ent.cells L) := by rw [hiE3, lo3E]; exact RwS.sl2 hr4
              have hle3 : hi3 ≤ w27.heap.size := Nat.le_of_eq hiE3
              have hzlo3tb1 : tb1 < lo3 := by rw [lo3E]; omega
              have hzlo3tb2 : tb2 < lo3 := by rw [lo3E]; omega
              refine VL_pure 8 [111, 113, 114] [(111, .bool true), (113, .slice A4 n3 c4), (114, .slice A1 n1 c1)] (by kernel_rfl) rfl ?_
              have hzl71 := Tb.lt hT
              have hzs27 := hS.size
              have hzl72 := Tb.lt hT2
              have hzl73 := ho2.lt
              have hzl74 := hmk1.lt
              refine VL_call (d := 115) (f := 19) (args := #[.slice A4 n3 c4, .slice A1 n1 c1]) (by kernel_rfl) (by kernel_rfl) (by kernel_rfl) Try.call19 (lsame_refl hn6 hn3 (Sl2.sl hv3) (Sl2.sl hv1) (by omega) (by omega)) ?_
              rintro _ w28 ⟨rfl, hc15⟩
              replace hT := Tb.no hT hc15
              replace hK := hK.no hc15
              replace hS := Step.trans hS hc15
              replace hT2 := Tb.no hT2 hc15
              replace ho2 := ho2.no hc15
              replace hmk1 := hmk1.no hc15
              replace hv1 := hv1.step hc15 (fun k hk1 hk2 hF => hF)
              replace hle1 := Nat.le_trans hle1 (hc15).size
              replace hb9 := Nat.le_trans hb9 (hc15).size
              replace hv2 := hv2.step hc15 (fun k hk1 hk2 hF => hF)
              replace hle2 := Nat.le_trans hle2 (hc15).size
              replace hv3 := hv3.step hc15 (fun k hk1 hk2 hF => hF)
              replace hle3 := Nat.le_trans hle3 (hc15).size
              refine VL_pure 11 [4] [(4, .bool true)] (by kernel_rfl) rfl ?_
              refine VL_end (by kernel_rfl) ?_
              refine VQ_next ?_
              refine VC_ret ?_
              have hzl75 := Tb.lt hT
              have hzs28 := hS.size
              have hzl76 := Tb.lt hT2
              have hzl77 := ho2.lt
              have hzl78 := hmk1.lt
              have hzk8 := hle1
              have hzk9 := hb9
              have hzk10 := hle2
              have hzk11 := hle3
              refine VQ_retM1 (.bool true) [w12.heap.size] (.inr rfl) rfl rfl ⟨hmk1, (by simp), trivial⟩ ?_
              intro w29 hq3
              replace hq3 : Step (Just w12.heap.size) w28 w29 := Step.mono hq3 (fun i hi => by simpa using hi)
              replace hS := Step.transNew hS hq3 (fun _ _ _ => by omega)
              replace ho2 := ho2.step hq3 (show ¬ b1 = w12.heap.size by omega)
              replace hv1 := hv1.step hq3 (fun k hk1 hk2 (hF : k = w12.heap.size) => by omega)
              replace hle1 := Nat.le_trans hle1 (hq3).size
              replace hb9 := Nat.le_trans hb9 (hq3).size
              replace hv2 := hv2.step hq3 (fun k hk1 hk2 (hF : k = w12.heap.size) => by omega)
              replace hle2 := Nat.le_trans hle2 (hq3).size
              replace hv3 := hv3.step hq3 (fun k hk1 hk2 (hF : k = w12.heap.size) => by omega)
              replace hle3 := Nat.le_trans hle3 (hq3).size
              exact ⟨rfl, hS⟩
        · intro e W _ hF _; exact hF.elim

end Go.Proofs.Ytfkahhkojlfmdaa
