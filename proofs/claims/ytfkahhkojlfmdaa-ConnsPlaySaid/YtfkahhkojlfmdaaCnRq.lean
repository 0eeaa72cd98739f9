/- Layer 9: the document's table is the same list. -/
import Derived.Test.YtfkahhkojlfmdaaCnRp
import Derived.Test.YtfkahhkojlfmdaaCnRe
set_option linter.unusedVariables false
set_option linter.unusedSimpArgs false
namespace Go.Proofs.Ytfkahhkojlfmdaa
open Go.Vc Go.RowKit
section
variable {w : World} {p lo : Nat} {room : Int} {L : List Ent}
theorem rput_any (kp kv kc m : Int) (hR : Rt w p lo room L) (hm : L.length ≤ 1000) (hlo : p < lo) (hlw : lo ≤ w.heap.size) : CV Try.prog 22 #[.pointer (some ⟨p, 0, none⟩), .agg #[.int .i64 kp, .int .i64 kv, .int .i64 kc], .int .i64 m] w fun x w1 => x = .int .i64 (putK L room kp kv kc) ∧ Rt w1 p lo room (putE L room kp kv kc m) ∧ Step (Just p) w w1 := by
  have no : ∀ r : Int, r ≠ 0 → putK L room kp kv kc = r → ∀ w1, Step No w w1 → Rt w1 p lo room (putE L room kp kv kc m) ∧ Step (Just p) w w1 := by
    intro r hr he w1 hs
    unfold putE
    rw [if_neg (by rw [he]; exact hr)]
    exact ⟨hR.no hs, hs.weak⟩
  cases hrr : rightB kp kv kc with
  | false =>
    have hk : putK L room kp kv kc = 1 := by unfold putK; rw [hrr]; rfl
    refine (rput_1 p lo room L kp kv kc m w hR hm hrr).mono ?_
    rintro x w1 ⟨rfl, hs⟩
    exact ⟨by rw [hk], no 1 (by decide) hk w1 hs⟩
  | true =>
    rcases atI_cases L kp kv kc with ⟨h1, h2⟩ | ⟨i, y, h1, h3, h4, h5, h6, h2⟩
    · by_cases hf : (L.length : Int) ≥ room
      · have hk : putK L room kp kv kc = 9 := by unfold putK; rw [if_pos hrr, h2, if_pos hf]; rfl
        refine (rput_9 p lo room L kp kv kc m w hR hm hrr h1 hf).mono ?_
        rintro x w1 ⟨rfl, hs⟩
        exact ⟨by rw [hk], no 9 (by decide) hk w1 hs⟩
      · have hk : putK L room kp kv kc = 0 := putK_ok.2 ⟨hrr, h2, by omega⟩
        have fin : ∀ (x : Value) (w1 : World), (x = .int .i64 0 ∧ Rt w1 p lo room (insE L ⟨kp, kv, kc, m⟩) ∧ Step (Just p) w w1) → (x = .int .i64 (putK L room kp kv kc) ∧ Rt w1 p lo room (putE L room kp kv kc m) ∧ Step (Just p) w w1) := by
          rintro x w1 ⟨rfl, a, b⟩
          unfold putE
          rw [if_pos hk, hk]
          exact ⟨rfl, a, b⟩
        by_cases h0 : L = []
        · exact (rput_first p lo room L kp kv kc m w hR hm hrr h1 (by omega) hlo hlw h0).mono fin
        · exact (rput_more p lo room L kp kv kc m w hR hm hrr h1 (by omega) hlo hlw (List.length_pos_iff.2 h0)).mono fin
    · have hk : putK L room kp kv kc = 7 := by unfold putK; rw [if_pos hrr, h2]; rfl
      refine (rput_7 p lo room L kp kv kc m w hR hm hrr i h1).mono ?_
      rintro x w1 ⟨rfl, hs⟩
      exact ⟨by rw [hk], no 7 (by decide) hk w1 hs⟩
theorem rget_any (kp kv kc : Int) (hR : Rt w p lo room L) (hm : L.length ≤ 1000) : CV Try.prog 24 #[.pointer (some ⟨p, 0, none⟩), .agg #[.int .i64 kp, .int .i64 kv, .int .i64 kc]] w fun x w1 => x = .tuple #[.int .i64 ((lookE L kp kv kc).getD 0), .bool (lookE L kp kv kc).isSome] ∧ Step No w w1 := by
  rcases atI_cases L kp kv kc with ⟨h1, h2⟩ | ⟨i, y, h1, h3, h4, h5, h6, h2⟩
  · rw [h2]; exact rget_no p lo room L kp kv kc w hR hm h1
  · rw [h2]; exact rget_yes p lo room L kp kv kc w hR hm i y h1 h3
theorem rdrop_any (kp kv kc : Int) (hR : Rt w p lo room L) (hsr : SrtE L) (hm : L.length ≤ 1000) (hlo : p < lo) (hlw : lo ≤ w.heap.size) : CV Try.prog 23 #[.pointer (some ⟨p, 0, none⟩), .agg #[.int .i64 kp, .int .i64 kv, .int .i64 kc]] w fun x w1 => x = .tuple #[.int .i64 ((lookE L kp kv kc).getD 0), .bool (lookE L kp kv kc).isSome] ∧ Rt w1 p lo room (delE L kp kv kc) ∧ Step (Just p) w w1 := by
  rcases atI_cases L kp kv kc with ⟨h1, h2⟩ | ⟨i, y, h1, h3, h4, h5, h6, h2⟩
  · refine (rdrop_no p lo room L kp kv kc w hR hm h1).mono ?_
    rintro x w1 ⟨rfl, hs⟩
    rw [h2, delE_none (by rw [h2]; rfl)]
    exact ⟨rfl, hR.no hs, hs.weak⟩
  · refine (rdrop_yes p lo room L kp kv kc w hR hm i y h1 h3 hlo hlw).mono ?_
    rintro x w1 ⟨rfl, a, b⟩
    rw [h2, ← h4, ← h5, ← h6, delE_at hsr h3]
    exact ⟨rfl, a, b⟩
end
theorem right_split {p v c : Int} : rightB p v c = true ↔ (rightB p v 0 = true ∧ 0 ≤ c ∧ c < 65536) := by
  unfold rightB
  rw [decide_eq_true_eq, decide_eq_true_eq]
  omega
theorem free_same {L : List Ent} {p v fr r r2 : Int} {ok : Bool} (h : FreeL L p v fr r ok) (h2 : FreeR L p v fr r2) (hbig : ∀ i, (lookE L p v i).isSome = true → rightB p v i = true) : r = imax r2 0 ∧ ok = decide (r2 ≥ 0) := by
  obtain ⟨e, he, hall, hend⟩ := h
  have him : imax 0 fr = imax fr 0 := by unfold imax; split <;> split <;> omega
  have h0 : 0 ≤ imax fr 0 := by unfold imax; split <;> omega
  have hx : imax (-1) 0 = 0 := by decide
  rcases h2 with ⟨hn, rfl⟩ | ⟨hy, e2, he2, hall2, hend2⟩
  · rcases hend with ⟨rfl, rfl, hr, _⟩ | ⟨rfl, rfl, hr⟩
    · rw [right_split] at hr; rw [hr.1] at hn; cases hn
    · exact ⟨hx.symm, rfl⟩
  · rw [him] at he2 hall2
    have hpos : imax e2 0 = e2 := by unfold imax; split <;> omega
    rcases hend with ⟨rfl, rfl, hr, hl⟩ | ⟨rfl, rfl, hr⟩
    · have hr' := right_split.1 hr
      have : r = e2 := by
        rcases Int.lt_trichotomy r e2 with hlt | heq | hgt
        · rw [hall2 r he hlt] at hl; cases hl
        · exact heq
        · have h9 := hall e2 he2 hgt
          rcases hend2 with ⟨_, hz, _⟩ | ⟨hb, _⟩
          · rw [hz] at h9; cases h9.2
          · have := right_split.1 h9.1; omega
      subst this
      rcases hend2 with ⟨_, _, rfl⟩ | ⟨hb, _⟩
      · exact ⟨hpos.symm, (decide_eq_true (by omega)).symm⟩
      · omega
    · have hge : 65536 ≤ e := by
        rcases Int.lt_or_le e 65536 with h | h
        · rw [right_split.2 ⟨hy, by omega, h⟩] at hr; cases hr
        · exact h
      rcases hend2 with ⟨hb, hz, rfl⟩ | ⟨hb, rfl⟩
      · have := hall r2 he2 (by omega)
        rw [hz] at this; cases this.2
      · exact ⟨hx.symm, rfl⟩
end Go.Proofs.Ytfkahhkojlfmdaa
