/- The calculus' twentieth part: loops in which marks are laid: each round may leave one more. -/
import Derived.Test.YtgiefcolkohgkaaVc18
set_option linter.unusedVariables false
set_option linter.unusedSimpArgs false
namespace Go.Vc
open Go.RowKit
section
variable {r : Option Nat} {n : Nat} {ds : List Deferred} {P : Program} {Q : Exit → Act → World → Prop} {l : List (Nat × Value)} {w : World} {c : Code}
theorem wpIn_loopH {σ : Type} {a : Act} (H : σ → Act → Prop) (I : σ → World → Prop) (μ : σ → World → Nat) (s0 : σ) (hs : H s0 a) (h0 : I s0 w)
    (round : ∀ s w, I s w → ∀ a, H s a → c.wpIn (Fx r) 0 P (Exit.then (fun a' w' => ∃ s', H s' a' ∧ I s' w' ∧ μ s' w' < μ s w) Q) a w) : (Code.loop c).wpIn (Fx r) 0 P Q a w := by
  intro b k cs hro hb hr
  have key : ∀ j s a w, μ s w = j → H s a → I s w →
      ∃ e a' w', Q e a' w' ∧ ArrivesIn (Machine.fenced P (Fx r)) P (lone (b.atR a (.code c :: .inLoop c :: k)) cs w) b k cs e a' w' := by
    intro j
    induction j using Nat.strongRecOn with
    | _ j ih =>
      intro s a w hn ha hI
      obtain ⟨e, a₁, w₁, hq, harr⟩ := round s w hI a ha b (.inLoop c :: k) cs hro hb hr
      cases e with
      | normal =>
        obtain ⟨s1, ha1, hI₁, hlt⟩ := hq
        obtain ⟨e₂, a₂, w₂, hq₂, harr₂⟩ := ih (μ s1 w₁) (hn ▸ hlt) s1 a₁ w₁ rfl ha1 hI₁
        exact ⟨e₂, a₂, w₂, hq₂, .of_steps (StepsIn.trans harr (.one (fenced_calm hb hr rfl) stepR_inLoop)) harr₂⟩
      | exit id => exact ⟨_, a₁, w₁, hq, .pass (x := .inLoop c) rfl (fun _ _ => .inl (by simp)) harr⟩
      | goto l => exact ⟨_, a₁, w₁, hq, .pass (x := .inLoop c) rfl (fun _ _ => .inl (by simp)) harr⟩
      | ret => exact ⟨_, a₁, w₁, hq, .pass (x := .inLoop c) rfl (fun _ _ => .inl (by simp)) harr⟩
      | panic ch => exact ⟨_, a₁, w₁, hq, .pass (x := .inLoop c) rfl (fun _ _ => .inl (by simp)) harr⟩
      | outgrown => exact ⟨_, a₁, w₁, hq, .pass (x := .inLoop c) rfl (fun _ _ => .inl (by simp)) harr⟩
  obtain ⟨e, a', w', hq, harr⟩ := key _ s0 a w rfl hs h0
  exact ⟨e, a', w', hq, .of_steps (.one (fenced_calm hb hr rfl) stepR_loop) harr⟩
def LoopKD {σ : Type} (n : Nat) (D : σ → List Nat) (L : σ → List (Nat × Value)) (I : σ → World → Prop) (μ : σ → World → Nat) (m : Nat) : Act → World → Prop :=
  fun a w => ∃ s, Has n ((D s).map markOf) (L s) a ∧ I s w ∧ μ s w < m
theorem VC_loopD {σ : Type} (D : σ → List Nat) (L : σ → List (Nat × Value)) (I : σ → World → Prop) (μ : σ → World → Nat) (s0 : σ) (hd : (D s0).map markOf = ds) (hs : Sub (L s0) l) (h0 : I s0 w)
    (round : ∀ s w, I s w → VC r n ((D s).map markOf) P (Exit.then (LoopKD n D L I μ (μ s w)) Q) c (L s) w) : VC r n ds P Q (.loop c) l w := by
  intro a ha
  subst hd
  exact wpIn_loopH (fun s a => Has n ((D s).map markOf) (L s) a) I μ s0 (ha.sub hs) h0 fun s w hI a ha => round s w hI a ha
theorem VQ_againD {σ : Type} {D : σ → List Nat} {L : σ → List (Nat × Value)} {I : σ → World → Prop} {μ : σ → World → Nat} {m : Nat} (s : σ) (hd : (D s).map markOf = ds) (hs : Sub (L s) l) (hI : I s w) (hm : μ s w < m) : VQ n ds (Exit.then (LoopKD n D L I μ m) Q) .normal l w := by
  subst hd
  exact fun a ha => ⟨s, ha.sub hs, hI, hm⟩
end
/-- Marks that lie between two bounds. -/
def MarksI (w : World) (lo hi : Nat) (Ds : List Nat) : Prop := Marks Ds w ∧ ∀ D ∈ Ds, lo ≤ D ∧ D < hi
theorem Marks.dfr {w : World} : ∀ {Ds : List Nat}, Marks Ds w → ∀ D ∈ Ds, Dfr w D
  | [], _, D, h => by simp at h
  | D0 :: Ds, h, D, hD => by
    rcases List.mem_cons.1 hD with rfl | hD
    · exact h.1
    · exact Marks.dfr h.2.2 D hD
section
variable {F : Nat → Prop} {w w' : World} {lo hi hi' D : Nat} {Ds : List Nat}
theorem MarksI.nil (w : World) (lo hi : Nat) : MarksI w lo hi [] := ⟨trivial, fun D h => by simp at h⟩
theorem MarksI.keep (h : MarksI w lo hi Ds) (hs : Step F w w') (hF : ∀ D, Dfr w D → lo ≤ D → D < hi → ¬ F D) : MarksI w' lo hi Ds :=
  ⟨h.1.step hs fun D hD => hF D (h.1.dfr D hD) (h.2 D hD).1 (h.2 D hD).2, h.2⟩
theorem MarksI.no (h : MarksI w lo hi Ds) (hs : Step No w w') : MarksI w' lo hi Ds := h.keep hs fun _ _ _ _ => id
theorem MarksI.ne {b : Nat} {cs : Array Value} {e : TypeId} (hD : Dfr w D) (ho : Own w b cs e) : D ≠ b := by
  rintro rfl
  unfold Dfr at hD
  unfold Own at ho
  rw [hD] at ho
  cases ho
theorem MarksI.own {b : Nat} {cs : Array Value} {e : TypeId} (h : MarksI w lo hi Ds) (ho : Own w b cs e) (hs : Step (Just b) w w') : MarksI w' lo hi Ds := h.keep hs fun D hD _ _ (e : D = b) => MarksI.ne hD ho e
theorem MarksI.mark {L : Nat} (h : MarksI w lo hi Ds) (hL : hi ≤ L) (hs : Step (Just L) w w') : MarksI w' lo hi Ds := h.keep hs fun D _ _ h2 (e : D = L) => by omega
theorem MarksI.mono (h : MarksI w lo hi Ds) (hh : hi ≤ hi') : MarksI w lo hi' Ds := ⟨h.1, fun D hD => ⟨(h.2 D hD).1, by have := (h.2 D hD).2; omega⟩⟩
theorem MarksI.cons (h : MarksI w lo hi Ds) (hD : Dfr w D) (hlo : lo ≤ D) (hhi : hi ≤ D) : MarksI w lo (D + 1) (D :: Ds) :=
  ⟨⟨hD, fun hm => by have := (h.2 D hm).2; omega, h.1⟩, fun E hE => by
    rcases List.mem_cons.1 hE with rfl | hE
    · exact ⟨hlo, by omega⟩
    · have := h.2 E hE; exact ⟨this.1, by omega⟩⟩
end
end Go.Vc
