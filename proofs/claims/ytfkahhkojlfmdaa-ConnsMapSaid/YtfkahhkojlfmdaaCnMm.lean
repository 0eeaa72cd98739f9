/- Layer 9, ConnsMap: a table's list and a map's list tell the same. -/
import Derived.Test.YtfkahhkojlfmdaaCnh
import Derived.Test.YtfkahhkojlfmdaaVc24
set_option linter.unusedVariables false
set_option linter.unusedSimpArgs false
namespace Go.Proofs.Ytfkahhkojlfmdaa
open Go.Vc Go.RowKit

theorem lookE_ins {L : List Ent} {x : Ent} (hs : SrtE L) (hx : lookE L x.p x.v x.c = none) (p v c : Int) : lookE (insE L x) p v c = if (x.p, x.v, x.c) = (p, v, c) then some x.n else lookE L p v c := by
  have hn := lookE_none.1 hx
  apply Option.ext
  intro n
  rw [lookE_some (insE_srt hs hn), mem_insE]
  by_cases h : (x.p, x.v, x.c) = (p, v, c)
  · rw [if_pos h]
    simp only [Prod.mk.injEq] at h
    obtain ⟨rfl, rfl, rfl⟩ := h
    constructor
    · rintro (h | h)
      · rw [← h]
      · exact absurd ⟨rfl, rfl, rfl⟩ (hn _ h)
    · intro h; simp only [Option.some.injEq] at h; subst h; exact .inl rfl
  · rw [if_neg h, lookE_some hs]
    constructor
    · rintro (h1 | h1)
      · exfalso; apply h; rw [← h1]
      · exact h1
    · exact .inr
theorem lookE_del {L : List Ent} (hs : SrtE L) (a b d p v c : Int) : lookE (delE L a b d) p v c = if (a, b, d) = (p, v, c) then none else lookE L p v c := by
  apply Option.ext
  intro n
  rw [lookE_some (delE_srt hs a b d), mem_delE]
  by_cases h : (a, b, d) = (p, v, c)
  · rw [if_pos h]
    simp only [Prod.mk.injEq] at h
    obtain ⟨rfl, rfl, rfl⟩ := h
    simp
  · rw [if_neg h, lookE_some hs]
    constructor
    · exact fun h1 => h1.1
    · exact fun h1 => ⟨h1, fun h2 => h (by simp only at h2; rw [h2.1, h2.2.1, h2.2.2])⟩
theorem len_delE {L : List Ent} (hs : SrtE L) (p v c : Int) : (delE L p v c).length = if (lookE L p v c).isSome = true then L.length - 1 else L.length := by
  induction L with
  | nil => rfl
  | cons y L ih =>
    obtain ⟨hy, hL⟩ := List.pairwise_cons.1 hs
    by_cases h : keyIs y p v c = true
    · have e : delE (y :: L) p v c = L := by
        unfold delE
        rw [List.filter_cons_of_neg (by simp [h])]
        refine List.filter_eq_self.2 fun z hz => ?_
        have hb := hy z hz
        simp only [keyIs, decide_eq_true_eq] at h
        simp only [keyIs, Bool.not_eq_true', decide_eq_false_iff_not]
        rintro ⟨e1, e2, e3⟩
        have : befE z z = true := by
          have h9 := hb
          unfold befE at h9 ⊢
          rwa [h.1, h.2.1, h.2.2, ← e1, ← e2, ← e3] at h9
        unfold befE at this
        rw [befK_iff] at this
        omega
      rw [e]
      have : lookE (y :: L) p v c = some y.n := by unfold lookE; rw [List.find?_cons_of_pos (p := fun x => keyIs x p v c) h]; rfl
      simp [this]
    · have e : delE (y :: L) p v c = y :: delE L p v c := by unfold delE; rw [List.filter_cons_of_pos (by simpa using h)]
      have e2 : lookE (y :: L) p v c = lookE L p v c := by unfold lookE; rw [List.find?_cons_of_neg (p := fun x => keyIs x p v c) h]
      rw [e, e2, List.length_cons, ih hL]
      split
      · rename_i hq
        have : 0 < L.length := by
          cases L with
          | nil => simp [lookE] at hq
          | cons z L => simp
        simp only [List.length_cons]; omega
      · rfl

abbrev K3 := Int × Int × Int
def k3cells (k : K3) : List Value := [.int .i64 k.1, .int .i64 k.2.1, .int .i64 k.2.2]
abbrev ek3 (k : K3) : Value := .agg (k3cells k).toArray
abbrev ui (n : Int) : Value := .int .i64 n
theorem keyT3 : KeyT Try.prog 29 ek3 := by
  refine keyT_agg k3cells [.int .i64, .int .i64, .int .i64] 5 (by kernel_rfl) (by kernel_rfl) (by kernel_rfl) ?_ ?_ (fun e k => by kernel_rfl) ?_ (by kernel_rfl)
  · rintro ⟨a, b, c⟩; exact ⟨⟨a, rfl⟩, ⟨b, rfl⟩, ⟨c, rfl⟩, trivial⟩
  · rintro ⟨a, b, c⟩ ⟨a', b', c'⟩ h
    simp only [k3cells, List.cons.injEq, Value.int.injEq, true_and, and_true] at h
    simp [h]
  · rintro ⟨a, b, c⟩
    simp [Instr.sameBits, k3cells]

structure TM (L : List Ent) (M : List (K3 × Int)) : Prop where
  look : ∀ p v c, lookE L p v c = getM M (p, v, c)
  len : L.length = M.length
theorem TM.nil : TM [] [] := ⟨fun _ _ _ => rfl, rfl⟩
theorem TM.put {L : List Ent} {M : List (K3 × Int)} {p v c n : Int} (h : TM L M) (hs : SrtE L) (hp : putK L 64 p v c = 0) : TM (putE L 64 p v c n) (putM M (p, v, c) n) := by
  have hl := (putK_ok.1 hp).2.1
  unfold putE
  rw [if_pos hp]
  refine ⟨fun a b d => ?_, ?_⟩
  · rw [lookE_ins hs hl, getM_put, h.look]
  · rw [insE_len, len_put, ← h.look, hl, h.len]; rfl
theorem TM.del {L : List Ent} {M : List (K3 × Int)} (p v c : Int) (h : TM L M) (hs : SrtE L) (hk : Keys1 M) : TM (delE L p v c) (delM M (p, v, c)) := by
  refine ⟨fun a b d => ?_, ?_⟩
  · rw [lookE_del hs, getM_del hk, h.look]
  · rw [len_delE hs, len_del, ← h.look, h.len]
theorem putK_is {L : List Ent} {p v c : Int} (h : L.length < 64) : (putK L 64 p v c == 0) = (!(lookE L p v c).isSome && rightB p v c) := by
  rw [Bool.eq_iff_iff, beq_iff_eq, putK_ok, Bool.and_eq_true, Bool.not_eq_true', Option.isSome_eq_false_iff, Option.isNone_iff_eq_none]
  constructor
  · rintro ⟨h1, h2, h3⟩; exact ⟨h2, h1⟩
  · rintro ⟨h1, h2⟩; exact ⟨h2, h1, by omega⟩
theorem len_putE_le (L : List Ent) (room p v c n : Int) : (putE L room p v c n).length ≤ L.length + 1 := by
  unfold putE; split
  · rw [insE_len]; omega
  · omega
theorem len_delE_le (L : List Ent) (p v c : Int) : (delE L p v c).length ≤ L.length := List.length_filter_le _ _
theorem putE_not {M : List Ent} {room p v c n : Int} (h : ¬ putK M room p v c = 0) : putE M room p v c n = M := by
  unfold putE; rw [if_neg h]
end Go.Proofs.Ytfkahhkojlfmdaa
