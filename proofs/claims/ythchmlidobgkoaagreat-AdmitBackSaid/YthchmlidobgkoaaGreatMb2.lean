import Derived.Test.YthchmlidobgkoaaGreatProg
import Derived.Shelf.SlSortCmp.WholeK
import Derived.Shelf.SlSortCmp.NoneTotal
import Derived.Sort.Grow
import Derived.Deep.Draws
import Derived.Laws.AppendOwn
import Derived.Test.YthchmlidobgkoaaGreatMb1
section
/- The calculus in few words: frames are not told but reckoned; what is plain is run up to the next operation that acts. -/
set_option linter.unusedVariables false
set_option linter.unusedSimpArgs false
namespace Go.Vc
open Go.RowKit
abbrev Pt (b o : Nat) : Value := .pointer (some ⟨b, o, none⟩)
abbrev I6 (x : Int) : Value := .int .i64 x
abbrev Bo (b : Bool) : Value := .bool b
section
variable {r : Option Nat} {n : Nat} {ds : List Deferred} {P : Program} {ops : Array Oper} {Q : Exit → Act → World → Prop} {l : List (Nat × Value)} {w : World} {i : Nat} {c x y : Code} {e : Exit}
theorem Vs (h : VC r n ds P (Exit.then (y.wpIn (Fx r) 0 P Q) Q) x l w) : VC r n ds P Q (.seq x y) l w := VC_seq h
theorem Vr {id : Nat} (h : VL r n ds P ops Q 0 l w) : VC r n ds P Q (.region id ops false) l w := VC_region h
theorem Vn (h : VC r n ds P Q y l w) : VQ n ds (Exit.then (y.wpIn (Fx r) 0 P Q) Q) .normal l w := h
/-- Plain operations up to number j. -/
def pr (P : Program) (n : Nat) (ops : Array Oper) (j i : Nat) (l : List (Nat × Value)) : List (Nat × Value) := (pureRun P n ops (j - i) i l).getD []
def prk (P : Program) (n : Nat) (ops : Array Oper) (j i : Nat) (l : List (Nat × Value)) : Bool := (pureRun P n ops (j - i) i l).isSome && Nat.ble i j
theorem prk_spec {j : Nat} (h : prk P n ops j i l = true) : pureRun P n ops (j - i) i l = some (pr P n ops j i l) ∧ i ≤ j := by
  simp only [prk, Bool.and_eq_true] at h
  obtain ⟨v, hv⟩ := Option.isSome_iff_exists.1 h.1
  exact ⟨by unfold pr; rw [hv]; rfl, Nat.le_of_ble_eq_true h.2⟩
theorem Vp (j : Nat) (next : VL r n ds P ops Q j (pr P n ops j i l) w) (h : prk P n ops j i l = true := by kernel_rfl) : VL r n ds P ops Q i l w := by
  obtain ⟨h1, h2⟩ := prk_spec h
  refine VL_pureRun (j - i) i l _ h1 ?_
  rw [show i + (j - i) = j from by omega]
  exact next
/-- All that is left is plain. -/
theorem Ve (next : VQ n ds Q .normal (pr P n ops ops.size i l) w) (h : prk P n ops ops.size i l = true := by kernel_rfl) : VL r n ds P ops Q i l w :=
  Vp ops.size (VL_end (Nat.ble_eq_true_of_le (Nat.le_refl _)) next) h
theorem Ven (next : VC r n ds P Q y (pr P n ops ops.size i l) w) (h : prk P n ops ops.size i l = true := by kernel_rfl) : VL r n ds P ops (Exit.then (y.wpIn (Fx r) 0 P Q) Q) i l w := Ve (VQ_next next) h
theorem Vrp {id : Nat} (next : VC r n ds P Q y (pr P n ops ops.size 0 l) w) (h : prk P n ops ops.size 0 l = true := by kernel_rfl) : VC r n ds P Q (.seq (.region id ops false) y) l w := VC_seq (VC_region (Ven next h))
/-- A load out of a block of one's own. -/
def ldo (P : Program) (n : Nat) (ops : Array Oper) (l : List (Nat × Value)) (j : Nat) (c : Array Value) : Option (Nat × Nat × Nat × TypeId × Value) :=
  match loadOp n ops l j with
  | some (d, t, ⟨b, o, none⟩) => bif oneB P t then (c[o]?).map fun v => (d, b, o, t, v) else match aggB P t with
    | some k => bif Nat.ble (o + k) c.size then some (d, b, o, t, .agg (c.extract o (o + k))) else none
    | none => none
  | _ => none
theorem ldo_spec {j d b o : Nat} {t : TypeId} {v : Value} {cs : Array Value} {e : TypeId} (h : ldo P n ops l j cs = some (d, b, o, t, v)) (ho : Blk w b cs e) : loadOp n ops l j = some (d, t, ⟨b, o, none⟩) ∧ Loads P t w ⟨b, o, none⟩ v := by
  unfold ldo at h
  split at h
  · rename_i _ d' t' b' o' hl
    cases h1 : oneB P t' with
    | true =>
      rw [h1] at h
      simp only [cond_true, Option.map_eq_some_iff, Prod.mk.injEq] at h
      obtain ⟨v', hv, rfl, rfl, rfl, rfl, rfl⟩ := h
      exact ⟨hl, Loads.blk1 ho h1 hv⟩
    | false =>
      rw [h1] at h
      simp only [cond_false] at h
      cases h2 : aggB P t' with
      | none => rw [h2] at h; cases h
      | some k =>
        rw [h2] at h
        simp only at h
        cases h3 : Nat.ble (o' + k) cs.size with
        | false => rw [h3] at h; cases h
        | true =>
          rw [h3] at h
          simp only [cond_true, Option.some.injEq, Prod.mk.injEq] at h
          obtain ⟨rfl, rfl, rfl, rfl, rfl⟩ := h
          exact ⟨hl, Loads.blk ho h2 (Nat.le_of_ble_eq_true h3) rfl⟩
  · cases h
theorem ldo_op {j d b o : Nat} {t : TypeId} {v : Value} {cs : Array Value} (h : ldo P n ops l j cs = some (d, b, o, t, v)) : loadOp n ops l j = some (d, t, ⟨b, o, none⟩) := by
  unfold ldo at h
  split at h
  · rename_i _ d' t' b' o' hl
    cases h1 : oneB P t' with
    | true =>
      rw [h1] at h
      simp only [cond_true, Option.map_eq_some_iff, Prod.mk.injEq] at h
      obtain ⟨v', hv, rfl, rfl, rfl, rfl, rfl⟩ := h
      exact hl
    | false =>
      rw [h1] at h
      simp only [cond_false] at h
      cases h2 : aggB P t' with
      | none => rw [h2] at h; cases h
      | some k =>
        rw [h2] at h
        simp only at h
        cases h3 : Nat.ble (o' + k) cs.size with
        | false => rw [h3] at h; cases h
        | true =>
          rw [h3] at h
          simp only [cond_true, Option.some.injEq, Prod.mk.injEq] at h
          obtain ⟨rfl, rfl, rfl, rfl, rfl⟩ := h
          exact hl
  · cases h
def lnx (x : Option (Nat × Nat × Nat × TypeId × Value)) (l : List (Nat × Value)) : List (Nat × Value) := match x with
  | some (d, _, _, _, v) => (d, v) :: l
  | none => l
theorem VbL {b : Nat} {cs : Array Value} {e : TypeId} (ho : Blk w b cs e) (h : (ldo P n ops l i cs).map (fun x => x.2.1) = some b) (hi : Nat.blt i ops.size = true) (next : VL r n ds P ops Q (i + 1) (lnx (ldo P n ops l i cs) l) w) : VL r n ds P ops Q i l w := by
  obtain ⟨⟨d, b', o, t, v⟩, hx, rfl⟩ := Option.map_eq_some_iff.1 h
  obtain ⟨h1, h2⟩ := ldo_spec hx ho
  rw [hx] at next
  exact VL_load h1 hi h2 next
theorem Vl {b : Nat} {cs : Array Value} {e : TypeId} (j : Nat) (ho : Own w b cs e) (next : VL r n ds P ops Q (j + 1) (lnx (ldo P n ops (pr P n ops j i l) j cs) (pr P n ops j i l)) w) (hp : prk P n ops j i l = true := by kernel_rfl) (h : (ldo P n ops (pr P n ops j i l) j cs).map (fun x => x.2.1) = some b := by kernel_rfl) (hi : Nat.blt j ops.size = true := by kernel_rfl) : VL r n ds P ops Q i l w :=
  Vp j (VbL ho.blk h hi next) hp
/-- The slot of operation j. -/
def ds0 (ops : Array Oper) (j : Nat) : Nat := (dstOf ops j).getD 0
theorem Vla (j : Nat) {t : TypeId} {a : Addr} {v : Value} (hv : Loads P t w a v) (next : VL r n ds P ops Q (j + 1) ((ds0 ops j, v) :: pr P n ops j i l) w) (hp : prk P n ops j i l = true := by kernel_rfl) (h : loadOp n ops (pr P n ops j i l) j = some (ds0 ops j, t, a) := by kernel_rfl) (hi : Nat.blt j ops.size = true := by kernel_rfl) : VL r n ds P ops Q i l w :=
  Vp j (VL_load h hi hv next) hp
theorem Vc (j : Nat) {f : FuncId} {args : Array Value} {S : Value → World → Prop} (hc : ∀ (args : Array Value) (w : World), (callFunc f args).run P w = .ok (.enter f args) w) (hcall : CV P f args w S) (next : ∀ v w', S v w' → VL r n ds P ops Q (j + 1) ((ds0 ops j, v) :: pr P n ops j i l) w') (hp : prk P n ops j i l = true := by kernel_rfl) (h : callOp ops (pr P n ops j i l) j = some (ds0 ops j, f, args) := by kernel_rfl) (hd : Nat.blt (ds0 ops j) n = true := by kernel_rfl) (hi : Nat.blt j ops.size = true := by kernel_rfl) : VL r n ds P ops Q i l w :=
  Vp j (VL_call h hd hi hc hcall next) hp
theorem Vx (j : Nat) (t : TypeId) (cs : Array Value) (next : ∀ b w1, New w w1 b (.cells cs t) → VL r n ds P ops Q (j + 1) ((ds0 ops j, Pt b 0) :: pr P n ops j i l) w1) (hp : prk P n ops j i l = true := by kernel_rfl) (h : boxOp P n ops (pr P n ops j i l) j = some (ds0 ops j, t, cs) := by kernel_rfl) (hi : Nat.blt j ops.size = true := by kernel_rfl) : VL r n ds P ops Q i l w :=
  Vp j (VL_box h hi next) hp
theorem Vst (j : Nat) {b o : Nat} (vs : List Value) {cs : Array Value} {e : TypeId} (hB : Own w b cs e) (cs' : Array Value) (next : ∀ w1, Wr w w1 b cs' e → VL r n ds P ops Q (j + 1) (pr P n ops j i l) w1) (hp : prk P n ops j i l = true := by kernel_rfl) (h : storeOp P ops (pr P n ops j i l) j = some (b, o, vs) := by kernel_rfl) (hi : Nat.blt j ops.size = true := by kernel_rfl) (hsz : Nat.ble (o + vs.length) cs.size = true := by kernel_rfl) (hcs : setRow cs o vs = cs' := by kernel_rfl) : VL r n ds P ops Q i l w :=
  Vp j (VL_store h hi hB (Nat.le_of_ble_eq_true hsz) fun w1 hw => next w1 (hcs ▸ hw)) hp
theorem Su {l' : List (Nat × Value)} (h : keep (l'.map fun x => x.1) l = some l' := by kernel_rfl) : Sub l' l := keep_sub h
theorem Vk {l' : List (Nat × Value)} (ks : List Nat) (h : VL r n ds P ops Q i l' w) (hs : keep ks l = some l' := by kernel_rfl) : VL r n ds P ops Q i l w := VL_keep ks l' hs h
theorem Vt {o : Operand} (ht : VC r n ds P Q x l w) (ho : opV l o = some (.bool true) := by kernel_rfl) : VC r n ds P Q (.cond o x y) l w := VC_true ho ht
theorem Vf {o : Operand} (ht : VC r n ds P Q y l w) (ho : opV l o = some (.bool false) := by kernel_rfl) : VC r n ds P Q (.cond o x y) l w := VC_false ho ht
theorem Vif {o : Operand} (b : Bool) (ht : b = true → VC r n ds P Q x l w) (hf : b = false → VC r n ds P Q y l w) (ho : opV l o = some (.bool b) := by kernel_rfl) : VC r n ds P Q (.cond o x y) l w := VC_cond b ho ht hf
theorem Vid {o : Operand} (p : Prop) [Decidable p] (ht : p → VC r n ds P Q x l w) (hf : ¬p → VC r n ds P Q y l w) (ho : opV l o = some (.bool (decide p)) := by kernel_rfl) : VC r n ds P Q (.cond o x y) l w := VC_dec p ho ht hf
theorem Vie {o : Operand} (p q : Int) (ht : p = q → VC r n ds P Q x l w) (hf : p ≠ q → VC r n ds P Q y l w) (ho : opV l o = some (.bool (p == q)) := by kernel_rfl) : VC r n ds P Q (.cond o x y) l w := VC_eq p q ho ht hf
theorem Viu {o : Operand} (p q : Int) (ht : p ≠ q → VC r n ds P Q x l w) (hf : p = q → VC r n ds P Q y l w) (ho : opV l o = some (.bool (p != q)) := by kernel_rfl) : VC r n ds P Q (.cond o x y) l w := VC_ne p q ho ht hf
theorem Vit {o : Operand} {b : Bool} (hb : b = true) (hn : VC r n ds P Q x l w) (ho : opV l o = some (.bool b) := by kernel_rfl) : VC r n ds P Q (.cond o x y) l w := VC_is true ho hb hn
theorem Viz {o : Operand} {b : Bool} (hb : b = false) (hn : VC r n ds P Q y l w) (ho : opV l o = some (.bool b) := by kernel_rfl) : VC r n ds P Q (.cond o x y) l w := VC_is false ho hb hn
theorem VCe {f : FuncId} {args : Array Value} {S : Value → World → Prop} {fn : Func} (hf : P.funcs[f]? = some fn) (h : VC none n [] P (bodyPost P fn (PostV S)) c (zipArgs 0 args.toList) w) (hb : fn.body = some c := by rfl) (hn : fn.ntmps = n := by rfl) (ha : Nat.ble args.toList.length n = true := by kernel_rfl) : CV P f args w S :=
  CV_enter fn _ _ _ hf hb hn ha rfl h
theorem Vr1 {fn : Func} {S : Value → World → Prop} {t : Nat} (v : Value) (hS : S v w) (he : e = .normal ∨ e = .ret := by first | exact .inr rfl | exact .inl rfl) (hr : fn.results = #[.tmp t] := by rfl) (hv : look l t = some v := by kernel_rfl) : VQ n [] (bodyPost P fn (PostV S)) e l w := VQ_ret1 v he hr hv hS
theorem Vr0 {fn : Func} {S : Value → World → Prop} (hS : S (.tuple #[]) w) (he : e = .normal ∨ e = .ret := by first | exact .inr rfl | exact .inl rfl) (hr : fn.results = #[] := by rfl) : VQ n [] (bodyPost P fn (PostV S)) e l w := VQ_ret0 he hr hS
theorem Vr2 {fn : Func} {S : Value → World → Prop} {t u : Nat} (v v' : Value) (hS : S (.tuple #[v, v']) w) (he : e = .normal ∨ e = .ret := by first | exact .inr rfl | exact .inl rfl) (hr : fn.results = #[.tmp t, .tmp u] := by rfl) (hv : look l t = some v := by kernel_rfl) (hv' : look l u = some v' := by kernel_rfl) : VQ n [] (bodyPost P fn (PostV S)) e l w := VQ_ret2 v v' he hr hv hv' hS
theorem VCm {f : FuncId} {args : Array Value} {S : Value → World → Prop} {fn : Func} (hf : P.funcs[f]? = some fn) (h : VC none n [] P (bodyPostM (Fx none) 0 P fn (PostV S)) c (zipArgs 0 args.toList) w) (hb : fn.body = some c := by rfl) (hn : fn.ntmps = n := by rfl) (ha : Nat.ble args.toList.length n = true := by kernel_rfl) : CV P f args w S :=
  CV_enterM fn _ _ _ hf hb hn ha rfl h
theorem VrM {fn : Func} {S : Value → World → Prop} {t : Nat} (v : Value) {Ds : List Nat} (hm : Marks Ds w) (hS : ∀ w', Step (fun i => i ∈ Ds) w w' → S v w') (he : e = .normal ∨ e = .ret := by first | exact .inr rfl | exact .inl rfl) (hr : fn.results = #[.tmp t] := by rfl) (hv : look l t = some v := by kernel_rfl) : VQ n (Ds.map markOf) (bodyPostM (Fx none) 0 P fn (PostV S)) e l w := VQ_retM1 v Ds he hr hv hm hS
/-- `b && c`, `b || c`: two ways that meet again. -/
theorem Vand (s t j : Nat) (ks : List Nat) (b c : Bool) (ht : b = true → VL r n ds P ops Q j ((t, Bo c) :: (keep ks l).getD []) w → VL r n ds P ops Q i ((s, Bo true) :: l) w) (next : VL r n ds P ops Q j ((t, Bo (b && c)) :: (keep ks l).getD []) w)
    (hs : look l s = some (Bo b) := by kernel_rfl) (hf : (pureRun P n ops (j - i) i ((s, Bo false) :: l)).bind (keep (t :: ks)) = some ((t, Bo false) :: (keep ks l).getD []) := by kernel_rfl) (hj : Nat.ble i j = true := by kernel_rfl) : VL r n ds P ops Q i l w := by
  have hsub : ∀ b', b = b' → ∀ t v, look ((s, Bo b') :: l) t = some v → look l t = some v := by
    intro b' e t' v hv
    simp only [look] at hv
    cases q : Nat.beq s t' with
    | true => rw [q] at hv; cases hv; have := Nat.eq_of_beq_eq_true q; subst this; subst e; exact hs
    | false => rw [q] at hv; exact hv
  cases hb : b with
  | true =>
    rw [hb] at next
    exact VL_look (hsub true hb) (ht hb next)
  | false =>
    rw [hb] at next
    exact VL_look (hsub false hb) (VL_pure j (t :: ks) _ hf hj next)
theorem Vor (s t j : Nat) (ks : List Nat) (b c : Bool) (ht : b = false → VL r n ds P ops Q j ((t, Bo c) :: (keep ks l).getD []) w → VL r n ds P ops Q i ((s, Bo false) :: l) w) (next : VL r n ds P ops Q j ((t, Bo (b || c)) :: (keep ks l).getD []) w)
    (hs : look l s = some (Bo b) := by kernel_rfl) (hf : (pureRun P n ops (j - i) i ((s, Bo true) :: l)).bind (keep (t :: ks)) = some ((t, Bo true) :: (keep ks l).getD []) := by kernel_rfl) (hj : Nat.ble i j = true := by kernel_rfl) : VL r n ds P ops Q i l w := by
  have hsub : ∀ b', b = b' → ∀ t v, look ((s, Bo b') :: l) t = some v → look l t = some v := by
    intro b' e t' v hv
    simp only [look] at hv
    cases q : Nat.beq s t' with
    | true => rw [q] at hv; cases hv; have := Nat.eq_of_beq_eq_true q; subst this; subst e; exact hs
    | false => rw [q] at hv; exact hv
  cases hb : b with
  | false =>
    rw [hb] at next
    exact VL_look (hsub false hb) (ht hb next)
  | true =>
    rw [hb] at next
    exact VL_look (hsub true hb) (VL_pure j (t :: ks) _ hf hj next)
theorem Vkn (s : Nat) (b c : Bool) (hb : b = c) (next : VL r n ds P ops Q i ((s, Bo c) :: l) w) (hs : look l s = some (Bo b) := by kernel_rfl) : VL r n ds P ops Q i l w := by
  subst hb
  refine VL_look (fun t v hv => ?_) next
  simp only [look] at hv
  cases q : Nat.beq s t with
  | true => rw [q] at hv; cases hv; have := Nat.eq_of_beq_eq_true q; subst this; exact hs
  | false => rw [q] at hv; exact hv
theorem look_put {s : Nat} {v : Value} (hs : look l s = some v) : ∀ t u, look ((s, v) :: l) t = some u → look l t = some u := by
  intro t u hv
  simp only [look] at hv
  cases q : Nat.beq s t with
  | true => rw [q] at hv; cases hv; have := Nat.eq_of_beq_eq_true q; subst this; exact hs
  | false => rw [q] at hv; exact hv
/-- A slot's value in other words. -/
theorem Vq (s : Nat) (v v' : Value) (hv : v = v') (next : VL r n ds P ops Q i ((s, v') :: l) w) (hs : look l s = some v := by kernel_rfl) : VL r n ds P ops Q i l w := by
  subst hv; exact VL_look (look_put hs) next
theorem VqC (s : Nat) (v v' : Value) (hv : v = v') (next : VC r n ds P Q c ((s, v') :: l) w) (hs : look l s = some v := by kernel_rfl) : VC r n ds P Q c l w := by
  subst hv; exact fun a ha => next a ⟨ha.size, ha.defers, fun t v hv => ha.get t v (look_put hs t v hv)⟩
/-! ### Drawn regions -/
/-- What each operation waits for, reckoned. -/
def anc (ops : Array Oper) : List (List Nat) := (List.range ops.size).foldl (fun tbl k => tbl ++ [(List.range k).filter fun x => nmem x (aftOf ops k) || (aftOf ops k).any fun j => nmem x (tb tbl j)]) []
def dvs (P : Program) (n : Nat) (ops : Array Oper) (m : Nat) (l av : List (Nat × Value)) : List Value :=
  (List.range m).foldl (fun vs k => vs ++ [match look av k with | some v => v | none => (pureAt P n ops (lkv ops (anc ops) m l vs k) k).getD undef]) []
theorem Vd {id : Nat} (m : Nat) (av : List (Nat × Value)) (js : List Nat)
    (hj : ∀ w1, Step No w w1 → AncAll (fun k => Det1 r n ds P ops Q w1 (lkv ops (anc ops) m l (dvs P n ops m l av) k) k ((dvs P n ops m l av).getD k undef)) js)
    (tail : ∀ w1, Step No w w1 → VL r n ds P ops Q m (lmv ops m l (dvs P n ops m l av)) w1)
    (hm : P.follows .mixedOrders = true := by kernel_rfl) (hchk : drawChk n ops (anc ops) m = true := by kernel_rfl) (hcov : allB m (fun k => nmem k ((List.range m).filter fun k => !nmem k js) || nmem k js) = true := by kernel_rfl)
    (hpure : (((List.range m).filter fun k => !nmem k js).map fun k => pureAt P n ops (lkv ops (anc ops) m l (dvs P n ops m l av) k) k) = ((List.range m).filter fun k => !nmem k js).map fun k => some ((dvs P n ops m l av).getD k undef) := by kernel_rfl) : VC r n ds P Q (.region id ops true) l w :=
  VC_det (anc ops) m _ _ js hm hchk hcov hpure hj tail
theorem Dl {b j : Nat} {cs : Array Value} {e : TypeId} {v : Value} (ho : Own w b cs e) (h : (ldo P n ops l j cs).map (fun x => (x.1, x.2.1, x.2.2.2.2)) = some (ds0 ops j, b, v) := by kernel_rfl) (hd : dstOf ops j = some (ds0 ops j) := by kernel_rfl) : Det1 r n ds P ops Q w l j v := by
  obtain ⟨⟨d, b', o, t, v'⟩, hx, he⟩ := Option.map_eq_some_iff.1 h
  simp only [Prod.mk.injEq] at he
  obtain ⟨rfl, rfl, rfl⟩ := he
  obtain ⟨h1, h2⟩ := ldo_spec hx ho.blk
  exact Det1_load h1 hd h2
theorem Dv {j : Nat} {v' : Value} (v : Value) (h : Det1 r n ds P ops Q w l j v) (hv : v = v' := by kernel_rfl) : Det1 r n ds P ops Q w l j v' := hv ▸ h
theorem Dc {j f : Nat} {args : Array Value} {v v' : Value} (hc : ∀ (args : Array Value) (w : World), (callFunc f args).run P w = .ok (.enter f args) w) (hcall : CV P f args w fun x w' => x = v ∧ Step No w w') (h : callOp ops l j = some (ds0 ops j, f, args) := by kernel_rfl) (hd : dstOf ops j = some (ds0 ops j) := by kernel_rfl) (hdn : Nat.blt (ds0 ops j) n = true := by kernel_rfl) (hv : v = v' := by kernel_rfl) : Det1 r n ds P ops Q w l j v' := hv ▸ Det1_call h hd hdn hc hcall
section
variable {m : Nat} {tbl : List (List Nat)} {R : World → World → Prop} {ch : List Nat} {kn : List (Nat × Value)} {is : List Nat} {k : Nat}
theorem Tx {id : Nat} (m : Nat) (F : Nat → Prop) (ch ord : List Nat) (h : VT r n ds P ops Q (anc ops) m l (fun x y => Step F x y) ch ord [] w.drew)
    (hm : P.follows .mixedOrders = true := by kernel_rfl) (hchk : drawChkL n ops (anc ops) m = true := by kernel_rfl) (hord : ordChk (anc ops) m ch ord = true := by kernel_rfl) (hall : allB m (fun k => nmem k ord) = true := by kernel_rfl) : VC r n ds P Q (.region id ops true) l w :=
  VC_text (anc ops) m (fun x y => Step F x y) ch ord hm hchk hord hall (fun x => Step.refl _ x) (fun h k => Step.trans h k) Step.weak h
def pt (P : Program) (n : Nat) (ops : Array Oper) (tbl : List (List Nat)) (m : Nat) (l : List (Nat × Value)) (is : List Nat) (kn : List (Nat × Value)) : List (Nat × Value) := (ptRun P n ops tbl m l is kn).getD []
theorem Tp (c : Nat) (next : VT r n ds P ops Q tbl m l R ch (is.drop c) (pt P n ops tbl m l (is.take c) kn) w) (h : (ptRun P n ops tbl m l (is.take c) kn).isSome = true := by kernel_rfl) : VT r n ds P ops Q tbl m l R ch is kn w := by
  obtain ⟨v, hv⟩ := Option.isSome_iff_exists.1 h
  refine VT_pures c hv ?_
  unfold pt at next
  rw [hv] at next
  exact next
theorem Tl {b : Nat} {cs : Array Value} {e : TypeId} (ho : ∀ w', R w w' → Own w' b cs e) (next : VT r n ds P ops Q tbl m l R ch is ((k, ((ldo P n ops (lkn ops tbl m l kn k) k cs).map fun x => x.2.2.2.2).getD undef) :: kn) w) (h : (ldo P n ops (lkn ops tbl m l kn k) k cs).map (fun x => (x.1, x.2.1)) = some (ds0 ops k, b) := by kernel_rfl) (hd : dstOf ops k = some (ds0 ops k) := by kernel_rfl) : VT r n ds P ops Q tbl m l R ch (k :: is) kn w := by
  obtain ⟨⟨d, b', o, t, v'⟩, hx, he⟩ := Option.map_eq_some_iff.1 h
  simp only [Prod.mk.injEq] at he
  obtain ⟨rfl, rfl⟩ := he
  rw [hx] at next
  exact VT_load (ldo_op hx) hd (fun w' hw => (ldo_spec hx (ho w' hw).blk).2) next
theorem VT_look : ∀ (is : List Nat) {kn kn' : List (Nat × Value)} {w : World}, (∀ j, look kn j = look kn' j) → VT r n ds P ops Q tbl m l R ch is kn w → VT r n ds P ops Q tbl m l R ch is kn' w := by
  have hk : ∀ {kn kn' : List (Nat × Value)}, (∀ j, look kn j = look kn' j) → ∀ k, lkn ops tbl m l kn k = lkn ops tbl m l kn' k := by
    intro kn kn' h k
    unfold lkn
    congr 1
    exact filterMap_congr' fun x _ => by rw [h]
  have hc : ∀ {kn kn' : List (Nat × Value)}, (∀ j, look kn j = look kn' j) → ∀ (k : Nat) (v : Value) j, look ((k, v) :: kn) j = look ((k, v) :: kn') j := by
    intro kn kn' h k v j
    simp only [look, h]
  intro is
  induction is with
  | nil =>
    intro kn kn' w h hv w' hw
    have := hv w' hw
    have e : lmn ops m l kn = lmn ops m l kn' := by
      unfold lmn
      congr 1
      exact filterMap_congr' fun x _ => by rw [h]
    rwa [e] at this
  | cons k is ih =>
    intro kn kn' w h hv
    rcases hv with ⟨v, h1, h2⟩ | ⟨h1, h2⟩
    · exact .inl ⟨v, fun w' hw => by rw [← hk h]; exact h1 w' hw, ih (hc h k v) h2⟩
    · refine .inr ⟨h1, fun w0 hw => ?_⟩
      have := h2 w0 hw
      rw [hk h] at this
      intro a ha
      refine wpOpIn_mono ?_ (this a ha)
      rintro a' w'' ⟨l', hl', hR, hx⟩
      refine ⟨l', hl', hR, ?_⟩
      rcases hx with ⟨v, d, g1, g2, g3⟩ | ⟨g1, g2⟩
      · exact .inl ⟨v, d, g1, g2, ih (hc h k v) g3⟩
      · exact .inr ⟨g1, ih h g2⟩
theorem look_keep {a kn : List (Nat × Value)} (hs : Sub a kn) : ∀ j, look (a ++ kn) j = look kn j := by
  intro j
  induction a with
  | nil => rfl
  | cons x a ih =>
    obtain ⟨t, v⟩ := x
    obtain ⟨h1, h2⟩ := hs
    simp only [List.cons_append, look]
    cases q : Nat.beq t j with
    | true => have := Nat.eq_of_beq_eq_true q; subst this; exact h1.symm
    | false => exact ih h2
/-- What is known, in other words. -/
theorem Tq (a b : List (Nat × Value)) (h : a = b) (next : VT r n ds P ops Q tbl m l R ch is (b ++ kn) w) (hs : keep (a.map fun x => x.1) kn = some a := by kernel_rfl) : VT r n ds P ops Q tbl m l R ch is kn w := by
  subst h
  exact VT_look is (look_keep (keep_sub hs)) next
theorem Th (h : ∀ w0, Step No w w0 → VTc r n ds P ops Q tbl m l R ch k is kn w0) (hk : nmem k ch = true := by kernel_rfl) : VT r n ds P ops Q tbl m l R ch (k :: is) kn w := VT_chain hk h
theorem Tc {f : FuncId} {args : Array Value} {S : Value → World → Prop} (hc : ∀ (args : Array Value) (w : World), (callFunc f args).run P w = .ok (.enter f args) w) (hcall : CV P f args w S) (hR : ∀ v w1, S v w1 → R w w1) (next : ∀ v w1, S v w1 → VT r n ds P ops Q tbl m l R ch is ((k, v) :: kn) w1) (h : callOp ops (lkn ops tbl m l kn k) k = some (ds0 ops k, f, args) := by kernel_rfl) (hd : dstOf ops k = some (ds0 ops k) := by kernel_rfl) (hdn : Nat.blt (ds0 ops k) n = true := by kernel_rfl) : VTc r n ds P ops Q tbl m l R ch k is kn w := VTc_call h hd hdn hc hcall hR next
end
theorem BB : (∀ a b : Bool, ((a && b) = true) = (a = true ∧ b = true)) ∧ (∀ a b : Bool, ((a || b) = true) = (a = true ∨ b = true)) ∧ (∀ (p : Prop) [Decidable p], (decide p = true) = p) ∧ (∀ b : Bool, ((!b) = true) = (b = false)) ∧ (∀ (p : Prop) [Decidable p], (decide p = false) = ¬p) ∧ (∀ a b : Bool, ((a && b) = false) = (a = false ∨ b = false)) ∧ (∀ a b : Bool, ((a || b) = false) = (a = false ∧ b = false)) ∧
    (∀ {α : Type} [BEq α] [LawfulBEq α] (a b : α), ((a == b) = true) = (a = b)) ∧ (∀ {α : Type} [BEq α] [LawfulBEq α] (a b : α), ((a != b) = true) = (a ≠ b)) ∧ (∀ {α : Type} [BEq α] [LawfulBEq α] (a b : α), ((a == b) = false) = (a ≠ b)) ∧ (∀ {α : Type} [BEq α] [LawfulBEq α] (a b : α), ((a != b) = false) = (a = b)) ∧ (∀ a b : Bool, ((!a) = b) = (a = !b)) ∧ ((!true) = false) ∧ ((!false) = true) :=
  ⟨by simp, by simp, by simp, by simp, by simp, by simp, by simp, by intros; simp, by intros; simp, by intros; simp, by intros; simp, by simp, rfl, rfl⟩
end
end Go.Vc
end

section
/- What the functions of package conns do, one by one: keys, homes, tables. -/
set_option linter.unusedVariables false
set_option linter.unusedSimpArgs false
set_option maxRecDepth 100000
set_option maxHeartbeats 4000000
namespace Go.Proofs.YthchmlidobgkoaaGreat
open Go.Vc Go.RowKit
theorem TCn1aa {P : Prop} (h : P := by first | exact .inl ⟨h1, rfl, rfl⟩ | exact .inr (.inl ⟨h1, h2, rfl, rfl⟩) | exact .inr (.inr (.inl ⟨h1, h2, h3, rfl, rfl⟩)) | exact .inr (.inr (.inr ⟨h1, h2, h3, rfl, rfl⟩))) : P := h
theorem TCn1ab {P : Prop} (h : P := by intro i hi; first | exact hi | exact ⟨_, by assumption, hi⟩ | (have hi9 : i = b := hi; (first | show _ ∨ _ | show _ = _); omega)) : P := h

theorem right_any (p v c : Int) (w : World) :
  CV Tryz.prog 51 #[.agg #[I6 p, I6 v, I6 c]] w (fun x w1 => x = Bo (rightB p v c) ∧ Step No w w1) := by
 have hS : Step No w w := Step.refl _ _
 refine VCe Tryz.func51 (Vs (Vr ?_))
 refine Vx 0 30 #[I6 p, I6 v, I6 c] ?_
 intro b1 w1 hn1
 replace hS := Step.trans hS (hn1.step No)
 have ho1 := hn1.own
 refine Ve (Vn (Vs (Vr (Vl 1 ho1 (Vp 4 (Vand 6 10 8 [1] (decide (p ≥ 0)) (decide (p < 8)) (fun hg1 J1 => ?_) ?_))))))
 ·refine Vl 5 ho1 ?_
  exact Vp 8 (Vk [10, 1] J1)
 refine Vp 9 (Vand 11 15 13 [1] ((decide (p ≥ 0)) && (decide (p < 8))) (decide (v ≥ 0)) (fun hg2 J2 => ?_) ?_)
 ·refine Vl 10 ho1 ?_
  exact Vp 13 (Vk [15, 1] J2)
 refine Vp 14 (Vand 16 20 18 [1] (((decide (p ≥ 0)) && (decide (p < 8))) && (decide (v ≥ 0))) (decide (v < 4096)) (fun hg3 J3 => ?_) ?_)
 ·refine Vl 15 ho1 ?_
  exact Vp 18 (Vk [20, 1] J3)
 refine Vp 19 (Vand 21 25 23 [1] ((((decide (p ≥ 0)) && (decide (p < 8))) && (decide (v ≥ 0))) && (decide (v < 4096))) (decide (c ≥ 0)) (fun hg4 J4 => ?_) ?_)
 ·refine Vl 20 ho1 ?_
  exact Vp 23 (Vk [25, 1] J4)
 refine Vp 24 (Vand 26 30 28 [] (((((decide (p ≥ 0)) && (decide (p < 8))) && (decide (v ≥ 0))) && (decide (v < 4096))) && (decide (c ≥ 0))) (decide (c < 65536)) (fun hg5 J5 => ?_) ?_)
 ·refine Vl 25 ho1 ?_
  exact Vp 28 (Vk [30] J5)
 refine Ve (Vn (VC_ret (Vr1 (Bo ((((((decide (p ≥ 0)) && (decide (p < 8))) && (decide (v ≥ 0))) && (decide (v < 4096))) && (decide (c ≥ 0))) && (decide (c < 65536)))) ?_)))
 exact ⟨congrArg Value.bool (by unfold rightB; rw [Bool.eq_iff_iff]; simp [and_assoc]), hS⟩

theorem home_any (p v c : Int) (w : World) :
  CV Tryz.prog 70 #[.agg #[I6 p, I6 v, I6 c]] w (fun x w1 => x = I6 ((homeN p v c : Nat) : Int) ∧ Step No w w1) := by
 have hS : Step No w w := Step.refl _ _
 refine VCe Tryz.func70 (Vs (Vr ?_))
 refine Vx 0 30 #[I6 p, I6 v, I6 c] ?_
 intro b1 w1 hn1
 replace hS := Step.trans hS (hn1.step No)
 have ho1 := hn1.own
 refine Ve (Vn (Vs (Vr (Vl 1 ho1 (Vl 4 ho1 (Vl 9 ho1 (Ve (Vn (Vrp (VC_ret (Vr1 (I6 (IntKind.wrap .i64 ((bXor .u32 (bXor .u32 (IntKind.wrap .u32 ((IntKind.wrap .u32 (IntKind.wrap .i64 ((IntKind.wrap .i64 (p * 4096)) + v))) * 65536)) (IntKind.wrap .u32 ((IntKind.wrap .u32 c) * 2654435761))) ((bXor .u32 (IntKind.wrap .u32 ((IntKind.wrap .u32 (IntKind.wrap .i64 ((IntKind.wrap .i64 (p * 4096)) + v))) * 65536)) (IntKind.wrap .u32 ((IntKind.wrap .u32 c) * 2654435761))).fdiv (2 ^ 16))).tmod 128))) ?_)))))))))))
 exact ⟨congrArg _ (homeN_eq p v c), hS⟩

theorem new_any (m : Int) (w : World) :
  CV Tryz.prog 22 #[I6 m] w (fun x w1 => ∃ b, x = Pt b 0 ∧ ¬ b < w.heap.size ∧ Own w1 b (encT noSlots 0 (imax 0 (imin m 64))) 82 ∧ Step No w w1) := by
 have hS : Step No w w := Step.refl _ _
 refine VCe Tryz.func22 (Vrp (Vs (Vr (Vp 4 ?_))))
 refine Vx 4 82 (encT noSlots 0 (imax 0 (imin m 64))) ?_
 intro b1 w1 hn1
 replace hS := Step.trans hS (hn1.step No)
 have ho1 := hn1.own
 have hzhn1 := hn1.size
 have hqhn1 := hn1.eqb
 refine Ve (Vn (VC_ret (Vr1 (Pt b1 0) ?_)))
 exact ⟨_, rfl, by omega, ho1, hS⟩

theorem len_any (b : Nat) (s : Nat → Slot) (len room : Int) (w : World) (ht : Own w b (encT s len room) 82) :
  CV Tryz.prog 26 #[Pt b 0] w (fun x w1 => x = I6 len ∧ Step No w w1) := by
 have hS : Step No w w := Step.refl _ _
 refine VCe Tryz.func26 (Vrp (Vs (Vrp (Vf (VC_skip (Vn (Vs (Vr (Vla 3 (t := 3) (a := ⟨b, 640, none⟩) (v := I6 len) (Loads.own1 ht (by kernel_rfl) (encT_len s len room)) (Ve (Vn (VC_ret (Vr1 (I6 len) ?_)))))))))))))
 exact ⟨rfl, hS⟩

theorem find_any (b : Nat) (s : Nat → Slot) (len room : Int) (p v c : Int) (w : World) (ht : Own w b (encT s len room) 82) (e : Nat) (he : e < 128) (hu : (s e).used = false) :
  CV Tryz.prog 53 #[Pt b 0, .agg #[I6 p, I6 v, I6 c]] w (fun x w1 => x = I6 ((findN s p v c : Nat) : Int) ∧ Step No w w1) := by
 have hS : Step No w w := Step.refl _ _
 refine VCe Tryz.func53 (Vs (Vr ?_))
 refine Vx 0 30 #[I6 p, I6 v, I6 c] ?_
 intro b1 w1 hn1
 replace hS := Step.trans hS (hn1.step No)
 replace ht := ht.no (hn1.step No)
 have ho1 := hn1.own
 refine Ve (Vn (VC_scope (Vs (Vr (Vl 0 ho1 ?_)))))
 refine Vc 1 (args := #[.agg #[I6 p, I6 v, I6 c]]) Tryz.call70 (home_any _ _ _ _) ?_
 rintro _ w2 ⟨rfl, hc1⟩
 replace hS := Step.trans hS hc1
 replace ht := ht.no hc1
 replace ho1 := ho1.no hc1
 refine Ve (Vn (Vs (VC_label (Vn (Vs (VC_block ?_))))))
 obtain ⟨d0, hd0, hg0⟩ := find_start s p v c e he hu
 refine VC_loop (σ := Nat × Nat) (fun σs => [(0, Pt b 0), (3, Pt b1 0), (5, I6 ((σs.1 : Nat) : Int))]) (fun σs wr => σs.1 < 128 ∧ (σs.1 + σs.2) % 128 = e ∧ go s p v c (σs.2 + 1) σs.1 = findN s p v c ∧ Step No w wr ∧ Own wr b1 #[I6 p, I6 v, I6 c] 30 ∧ Own wr b (encT s len room) 82) (fun σs wr => σs.2) ⟨homeN p v c, d0⟩ Su ?_ ?_
 ·exact ⟨homeN_lt p v c, hd0, hg0, hS, ho1, ht⟩
 rintro ⟨k, d⟩ wr ⟨hk, hd, hgo, hS, ho1, ht⟩
 try dsimp only at hk hd hgo hS ho1 ht ⊢
 refine Vs (Vs (Vr (Vp 4 (VL_index (d := 12) (b := b) (o := 0) (len := 128) (sz := 5) (m := ((k : Nat) : Int)) (by kernel_rfl) (by kernel_rfl) k (by rfl) (by omega) (k * 5) (by omega) (Vla 6 (t := 4) (a := ⟨b, k * 5 + 4, none⟩) (v := Bo ((s k).used)) (Loads.own1 ht (by kernel_rfl) (encT_used s len room k hk)) (Ve (Vn (Vif ((s k).used) (fun h1 => ?_) (fun h1 => ?_)))))))))
 ·try simp only [BB] at h1
  refine VC_skip (Vn (VC_block (Vs (Vs (Vd 8 [(4, Pt b (k * 5)), (6, .agg #[I6 ((s k).p), I6 ((s k).v), I6 ((s k).c)]), (7, .agg #[I6 p, I6 v, I6 c])] [4, 6, 7] ?_ ?_)))))
  ·intro w3 hs1
   replace ht := ht.no hs1
   replace ho1 := ho1.no hs1
   exact ⟨Dv (Pt b (k * 5)) (Det1_index (d := 19) (b := b) (o := 0) (len := 128) (sz := 5) (m := ((k : Nat) : Int)) (by kernel_rfl) (by kernel_rfl) k (by rfl) (by omega) (k * 5) (by omega)), Dv (.agg #[I6 ((s k).p), I6 ((s k).v), I6 ((s k).c)]) (Det1_load (d := 21) (t := 30) (a := ⟨b, k * 5, none⟩) (by kernel_rfl) (by kernel_rfl) (Loads.own ht (n := 3) (by kernel_rfl) (by rw [encT_size]; omega) (encT_key s len room k hk))), Dl ho1, trivial⟩
  intro w3 hs1
  replace hS := Step.trans hS hs1
  replace ht := ht.no hs1
  replace ho1 := ho1.no hs1
  refine VL_agEq (d := 23) (dd := 9) (ls := ([.int .i64] ++ [.int .i64] ++ [.int .i64] ++ [])) (pos := true) (t := 30) (xs := #[I6 ((s k).p), I6 ((s k).v), I6 ((s k).c)]) (ys := #[I6 p, I6 v, I6 c]) (by kernel_rfl) (by kernel_rfl) (by kernel_rfl) (by kernel_rfl) (by first | exact ⟨⟨_, rfl⟩, ⟨_, rfl⟩, ⟨_, rfl⟩, trivial⟩ | trivial) (by first | exact ⟨⟨_, rfl⟩, ⟨_, rfl⟩, ⟨_, rfl⟩, trivial⟩ | trivial) (hitB (s k) p v c) (by rw [Bool.eq_iff_iff]; simp [cellsEq, leafEq, hitB]) (Ve (Vn (Vif (hitB (s k) p v c) (fun h2 => ?_) (fun h2 => ?_))))
  ·try simp only [BB] at h2
   refine VC_exit (VQ_then_exit (VQ_block_miss (by kernel_rfl) (VQ_then_exit (VQ_block_hit (Vn (Vrp (VC_ret (VQ_scope_ret (Vr1 (I6 ((k : Nat) : Int)) ?_)))))))))
   exact ⟨congrArg (fun n : Nat => Value.int .i64 (n : Int)) (hgo.symm.trans (go_stop s p v c d k (by first | exact Or.inl h1 | exact Or.inr h2))).symm, hS⟩
  ·try simp only [BB] at h2
   refine VC_skip (Vn (Vr (Vp 3 (Vq 26 (I6 ((IntKind.wrap .i64 (((k : Nat) : Int) + 1)).tmod 128)) (I6 (((k + 1) % 128 : Nat) : Int)) (by rw [wrap_i64 (_ + 1) (by omega) (by omega), Int.tmod_eq_emod_of_nonneg (by omega)]; rfl) (Ve (VQ_block_normal (VQ_again ⟨(k + 1) % 128, d - 1⟩ Su ?_ ?_)))))))
   ·obtain ⟨a1, a2, a3, a4⟩ := find_again s p v c k d e _ hk hd hu hgo h1 h2
    exact ⟨a1, a2, a3, hS, ho1, ht⟩
   ·exact (find_again s p v c k d e _ hk hd hu hgo h1 h2).2.2.2
 ·try simp only [BB] at h1
  refine VC_exit (VQ_then_exit (VQ_then_exit (VQ_block_hit (Vn (Vrp (VC_ret (VQ_scope_ret (Vr1 (I6 ((k : Nat) : Int)) ?_))))))))
  exact ⟨congrArg (fun n : Nat => Value.int .i64 (n : Int)) (hgo.symm.trans (go_stop s p v c d k (by first | exact Or.inl h1 | exact Or.inr h2))).symm, hS⟩

theorem get_any (b : Nat) (s : Nat → Slot) (len room : Int) (p v c : Int) (w : World) (ht : Own w b (encT s len room) 82) (e : Nat) (he : e < 128) (hu : (s e).used = false) :
  CV Tryz.prog 25 #[.pointer (some ⟨b, 0, none⟩), .agg #[.int .i64 p, .int .i64 v, .int .i64 c]] w (fun x w1 => x = .tuple #[.int .i64 (s (findN s p v c)).n, .bool (s (findN s p v c)).used] ∧ Step No w w1) := by
 have hS : Step No w w := Step.refl _ _
 have hk := findN_lt s p v c
 refine CV_enter Tryz.f25 _ 21 [(0, .pointer (some ⟨b, 0, none⟩)), (1, .agg #[.int .i64 p, .int .i64 v, .int .i64 c])] Tryz.func25 rfl rfl (by kernel_rfl) rfl ?_
 refine VC_seq ?_
 refine VC_region ?_
 refine VL_box (d := 3) (t := 30) (c := #[.int .i64 p, .int .i64 v, .int .i64 c]) (by kernel_rfl) (by kernel_rfl) ?_
 intro b1 w1 hn1
 replace hS := Step.trans hS (hn1.step No)
 replace ht := ht.no (hn1.step No)
 have ho1 := hn1.own
 have hzhn1 := hn1.size
 have hqhn1 := hn1.eqb
 refine VL_pure 3 [0, 3] [(0, .pointer (some ⟨b, 0, none⟩)), (3, .pointer (some ⟨b1, 0, none⟩))] (by kernel_rfl) rfl ?_
 refine VL_end (by kernel_rfl) ?_
 refine VQ_next ?_
 refine VC_seq ?_
 refine VC_seq ?_
 refine VC_region ?_
 refine VL_pure 2 [0, 3, 8] [(0, .pointer (some ⟨b, 0, none⟩)), (3, .pointer (some ⟨b1, 0, none⟩)), (8, .bool false)] (by kernel_rfl) rfl ?_
 refine VL_end (by kernel_rfl) ?_
 refine VQ_next ?_
 refine VC_false (by kernel_rfl) ?_
 refine VC_skip ?_
 refine VQ_next ?_
 refine VC_seq ?_
 refine VC_mix [[], [], [], [1, 2], [0], [0, 4], [0, 1, 2, 3, 4, 5], [0, 1, 2, 3, 4, 5, 6], [], [0, 1, 2, 3, 4, 5, 6, 7, 8]] 9 [.pointer (some ⟨b, 0, none⟩), .pointer (some ⟨b, 0, none⟩), .agg #[.int .i64 p, .int .i64 v, .int .i64 c], .int .i64 ((findN s p v c : Nat) : Int), .pointer (some ⟨b, 0, none⟩), .pointer (some ⟨b, 0, none⟩), .pointer (some ⟨b, (findN s p v c) * 5, none⟩), .agg #[.int .i64 ((s (findN s p v c)).p), .int .i64 ((s (findN s p v c)).v), .int .i64 ((s (findN s p v c)).c), .int .i64 ((s (findN s p v c)).n), .bool ((s (findN s p v c)).used)], undef] [0, 1, 4, 5] [2, 3, 6, 7] [(8, 79, #[.int .i64 0, .int .i64 0, .int .i64 0, .int .i64 0, .bool false])] (by kernel_rfl) (by kernel_rfl) (by kernel_rfl) (by kernel_rfl) (by kernel_rfl) (by kernel_rfl) (by kernel_rfl) ?_ (by kernel_rfl) ?_
 ·intro w2 hs1
  replace ht := ht.no hs1
  replace ho1 := ho1.no hs1
  exact ⟨Det1_load (d := 11) (t := 30) (a := ⟨b1, 0, none⟩) (by kernel_rfl) (by kernel_rfl) (Loads.ownL ho1 (n := 3) (by kernel_rfl) (by kernel_rfl) (by kernel_rfl)), Det1_call (d := 12) (f := 53) (args := #[.pointer (some ⟨b, 0, none⟩), .agg #[.int .i64 p, .int .i64 v, .int .i64 c]]) (by kernel_rfl) (by kernel_rfl) (by kernel_rfl) Tryz.call53 (by exact find_any b s len room p v c w2 ht e he hu), Det1_index (d := 15) (b := b) (o := 0) (len := 128) (sz := 5) (m := ((findN s p v c : Nat) : Int)) (by kernel_rfl) (by kernel_rfl) (findN s p v c) (by rfl) (by omega) ((findN s p v c) * 5) (by omega), Det1_load (d := 16) (t := 79) (a := ⟨b, (findN s p v c) * 5, none⟩) (by kernel_rfl) (by kernel_rfl) (Loads.own ht (n := 5) (by kernel_rfl) (by rw [encT_size]; omega) (encT_all s len room (findN s p v c) hk)), trivial⟩
 intro w2 bs1 hs1 hnw1
 replace hS := Step.trans hS hs1
 refine VL_keep [16, 6] [(16, .agg #[.int .i64 ((s (findN s p v c)).p), .int .i64 ((s (findN s p v c)).v), .int .i64 ((s (findN s p v c)).c), .int .i64 ((s (findN s p v c)).n), .bool ((s (findN s p v c)).used)]), (6, .pointer (some ⟨(bs1 8), 0, none⟩))] (by kernel_rfl) ?_
 obtain ⟨⟨hleb2, hob2⟩, -⟩ := hnw1
 generalize bs1 8 = b2 at hleb2 hob2 ⊢
 refine VL_keep [16, 6] [(16, .agg #[.int .i64 ((s (findN s p v c)).p), .int .i64 ((s (findN s p v c)).v), .int .i64 ((s (findN s p v c)).c), .int .i64 ((s (findN s p v c)).n), .bool ((s (findN s p v c)).used)]), (6, .pointer (some ⟨b2, 0, none⟩))] (by kernel_rfl) ?_
 refine VL_store (b := b2) (o := 0) (vs := [.int .i64 ((s (findN s p v c)).p), .int .i64 ((s (findN s p v c)).v), .int .i64 ((s (findN s p v c)).c), .int .i64 ((s (findN s p v c)).n), .bool ((s (findN s p v c)).used)]) (by kernel_rfl) (by kernel_rfl) hob2 (Nat.le_of_ble_eq_true (by kernel_rfl)) ?_
 intro w3 hw1
 replace hS := Step.transNew hS hw1.step (fun _ _ _ => by omega)
 have ho2 : Own w3 b2 #[.int .i64 ((s (findN s p v c)).p), .int .i64 ((s (findN s p v c)).v), .int .i64 ((s (findN s p v c)).c), .int .i64 ((s (findN s p v c)).n), .bool ((s (findN s p v c)).used)] 79 := Own.cast hw1.own (by kernel_rfl)
 refine VL_end (by kernel_rfl) ?_
 refine VQ_next ?_
 refine VC_seq ?_
 refine VC_det [[], [0], [], [2], [0, 1], [0, 1, 2, 3, 4]] 5 [.pointer (some ⟨b2, 3, none⟩), .int .i64 ((s (findN s p v c)).n), .pointer (some ⟨b2, 4, none⟩), .bool ((s (findN s p v c)).used), .int .i64 ((s (findN s p v c)).n)] [0, 2, 4] [1, 3] (by kernel_rfl) (by kernel_rfl) (by kernel_rfl) (by kernel_rfl) ?_ ?_
 ·intro w4 hs2
  replace ho2 := ho2.no hs2
  exact ⟨Det1_load (d := 18) (t := 3) (a := ⟨b2, 3, none⟩) (by kernel_rfl) (by kernel_rfl) (Loads.own1 ho2 (by kernel_rfl) (by rfl)), Det1_load (d := 20) (t := 4) (a := ⟨b2, 4, none⟩) (by kernel_rfl) (by kernel_rfl) (Loads.own1 ho2 (by kernel_rfl) (by rfl)), trivial⟩
 intro w4 hs2
 replace hS := Step.trans hS hs2
 refine VL_keep [20, 4] [(20, .bool ((s (findN s p v c)).used)), (4, .int .i64 ((s (findN s p v c)).n))] (by kernel_rfl) ?_
 refine VL_pure 6 [4, 5] [(4, .int .i64 ((s (findN s p v c)).n)), (5, .bool ((s (findN s p v c)).used))] (by kernel_rfl) rfl ?_
 refine VL_end (by kernel_rfl) ?_
 refine VQ_next ?_
 refine VC_ret ?_
 refine VQ_ret2 (.int .i64 ((s (findN s p v c)).n)) (.bool ((s (findN s p v c)).used)) (.inr rfl) rfl rfl rfl ?_
 exact ⟨rfl, hS⟩

theorem put_any (b : Nat) (s : Nat → Slot) (len room : Int) (p v c n : Int) (w : World) (ht : Own w b (encT s len room) 82) (e : Nat) (he : e < 128) (hu : (s e).used = false) (hl0 : 0 ≤ len) (hl : len < 1000) :
  CV Tryz.prog 35 #[Pt b 0, .agg #[I6 p, I6 v, I6 c], I6 n] w (fun x w1 => x = I6 (putC s len room p v c) ∧ Own w1 b (encT (putS s len room p v c n) (putL s len room p v c) room) 82 ∧ Step (Just b) w w1) := by
 have hS : Step (Just b) w w := Step.refl _ _
 have hk := findN_lt s p v c
 refine VCe Tryz.func35 (Vs (Vr ?_))
 refine Vx 0 30 #[I6 p, I6 v, I6 c] ?_
 intro b1 w1 hn1
 replace hS := Step.trans hS (Step.weak (hn1.step No))
 replace ht := ht.no (hn1.step No)
 have ho1 := hn1.own
 refine Ve (Vn (Vs (Vrp (Vf (VC_skip (Vn (Vs (Vs (Vr (Vl 0 ho1 ?_))))))))))
 refine Vc 1 (args := #[.agg #[I6 p, I6 v, I6 c]]) Tryz.call51 (right_any _ _ _ _) ?_
 rintro _ w2 ⟨rfl, hc1⟩
 replace hS := Step.trans hS (Step.weak hc1)
 replace ht := ht.no hc1
 replace ho1 := ho1.no hc1
 refine Ve (Vn (Vif (!(rightB p v c)) (fun h1 => ?_) (fun h1 => ?_)))
 ·try simp only [BB] at h1
  refine Vrp (VC_ret (VQ_then_ret (Vr1 (I6 1) ?_)))
  exact put_fin s len room p v c n (ht := ht) hS TCn1aa
 ·try simp only [BB] at h1
  refine VC_skip (Vn (Vs (Vr (Vl 1 ho1 ?_))))
  refine Vc 2 (args := #[Pt b 0, .agg #[I6 p, I6 v, I6 c]]) Tryz.call53 (find_any b s len room p v c w2 ht e he hu) ?_
  rintro _ w3 ⟨rfl, hc2⟩
  replace hS := Step.trans hS (Step.weak hc2)
  replace ht := ht.no hc2
  replace ho1 := ho1.no hc2
  refine Ve (Vn (Vs (VC_block (Vs (Vr (Vp 4 (VL_index (d := 21) (b := b) (o := 0) (len := 128) (sz := 5) (m := ((findN s p v c : Nat) : Int)) (by kernel_rfl) (by kernel_rfl) (findN s p v c) (by rfl) (by omega) ((findN s p v c) * 5) (by omega) (Vla 6 (t := 4) (a := ⟨b, (findN s p v c) * 5 + 4, none⟩) (v := Bo ((s (findN s p v c)).used)) (Loads.own1 ht (by kernel_rfl) (encT_used s len room (findN s p v c) hk)) (Ve (Vn (Vif ((s (findN s p v c)).used) (fun h2 => ?_) (fun h2 => ?_))))))))))))
  ·try simp only [BB] at h2
   refine Vrp (VC_ret (VQ_block_ret (VQ_then_ret (Vr1 (I6 7) ?_))))
   exact put_fin s len room p v c n (ht := ht) hS TCn1aa
  ·try simp only [BB] at h2
   refine Vs (Vd 8 [(3, I6 len), (7, I6 room)] [3, 7] ?_ ?_)
   ·intro w4 hs1
    replace ht := ht.no hs1
    exact ⟨Dv (I6 len) (Det1_load (d := 28) (t := 3) (a := ⟨b, 640, none⟩) (by kernel_rfl) (by kernel_rfl) (Loads.own1 ht (by kernel_rfl) (encT_len s len room))), Dv (I6 room) (Det1_load (d := 32) (t := 3) (a := ⟨b, 641, none⟩) (by kernel_rfl) (by kernel_rfl) (Loads.own1 ht (by kernel_rfl) (encT_room s len room))), trivial⟩
   intro w4 hs1
   replace hS := Step.trans hS (Step.weak hs1)
   replace ht := ht.no hs1
   replace ho1 := ho1.no hs1
   refine Ve (Vn (Vid (len ≥ room) (fun h3 => ?_) (fun h3 => ?_)))
   ·refine Vrp (VC_ret (VQ_block_ret (VQ_then_ret (Vr1 (I6 9) ?_))))
    exact put_fin s len room p v c n (ht := ht) hS TCn1aa
   ·refine VC_skip (VQ_block_normal (Vn (Vs (Vd 7 [(2, .agg #[I6 p, I6 v, I6 c])] [2] ?_ ?_))))
    ·intro w5 hs2
     replace ho1 := ho1.no hs2
     exact ⟨Dl ho1, trivial⟩
    intro w5 hs2
    replace hS := Step.trans hS (Step.weak hs2)
    replace ht := ht.no hs2
    refine VL_index (d := 41) (b := b) (o := 0) (len := 128) (sz := 5) (m := ((findN s p v c : Nat) : Int)) (by kernel_rfl) (by kernel_rfl) (findN s p v c) (by rfl) (by omega) ((findN s p v c) * 5) (by omega) (VL_store (b := b) (o := (findN s p v c) * 5) (vs := [I6 p, I6 v, I6 c, I6 n, Bo true]) (by kernel_rfl) (by kernel_rfl) ht (by rw [encT_size]; show _ + 5 ≤ _; omega) ?_)
    intro w6 hw1
    replace hS := Step.trans hS (Step.mono hw1.step TCn1ab)
    have ho2 : Own w6 b (encT (setS s (findN s p v c) ⟨p, v, c, n, true⟩) len room) 82 := Own.cast hw1.own (setRow_slot s len room (findN s p v c) hk ⟨p, v, c, n, true⟩)
    refine Ve (Vn (Vs (Vr (Vla 3 (t := 3) (a := ⟨b, 640, none⟩) (v := I6 len) (Loads.own1 ho2 (by kernel_rfl) (encT_len (setS s (findN s p v c) ⟨p, v, c, n, true⟩) len room)) (Vp 5 (Vq 46 (I6 (IntKind.wrap .i64 (len + 1))) (I6 (len + 1)) (by rw [wrap_i64 (len + 1) (by omega) (by omega)]) (Vp 7 (VL_store (b := b) (o := 640) (vs := [I6 (len + 1)]) (by kernel_rfl) (by kernel_rfl) ho2 (by rw [encT_size]; exact Nat.le_of_ble_eq_true (by kernel_rfl)) ?_))))))))
    intro w7 hw2
    replace hS := Step.trans hS (Step.mono hw2.step TCn1ab)
    have ho3 : Own w7 b (encT (setS s (findN s p v c) ⟨p, v, c, n, true⟩) (len + 1) room) 82 := Own.cast hw2.own (setRow_len _ _ _ _)
    refine Ve (Vn (Vrp (VC_ret (Vr1 (I6 0) ?_))))
    exact put_fin s len room p v c n (ht := ho3) hS TCn1aa

end Go.Proofs.YthchmlidobgkoaaGreat
end

section
/- Package conns in plain Lean: the table is a map. -/
set_option linter.unusedVariables false
set_option linter.unusedSimpArgs false
namespace Go.Proofs.YthchmlidobgkoaaGreat
open Go.Vc

/-! ### Lists -/
theorem length_le_of_nodup {α : Type} [DecidableEq α] {l m : List α} (hl : l.Nodup) (h : ∀ x ∈ l, x ∈ m) : l.length ≤ m.length := by
  induction l generalizing m with
  | nil => simp
  | cons x r ih =>
    obtain ⟨hx, hr⟩ := List.nodup_cons.1 hl
    have hxm : x ∈ m := h x (List.mem_cons_self ..)
    have := ih (m := m.erase x) hr fun y hy => (List.mem_erase_of_ne (fun e => hx (by rw [← e]; exact hy))).2 (h y (List.mem_cons_of_mem _ hy))
    rw [List.length_erase_of_mem hxm] at this
    have hpos : 0 < m.length := List.length_pos_of_mem hxm
    simp only [List.length_cons]
    omega

def usedL (s : Nat → Slot) : List Nat := (List.range 128).filter fun i => (s i).used
def cntU (s : Nat → Slot) : Nat := (usedL s).length
theorem mem_usedL {s : Nat → Slot} {i : Nat} : i ∈ usedL s ↔ i < 128 ∧ (s i).used = true := by simp [usedL]
theorem usedL_nodup (s : Nat → Slot) : (usedL s).Nodup := List.Pairwise.filter _ List.nodup_range
theorem exists_unused {s : Nat → Slot} (h : cntU s < 128) : ∃ e, e < 128 ∧ (s e).used = false := by
  apply Classical.byContradiction
  intro hno
  have : (List.range 128).length ≤ (usedL s).length := length_le_of_nodup List.nodup_range fun i hi => mem_usedL.2 ⟨List.mem_range.1 hi, by
    cases hb : (s i).used with
    | true => rfl
    | false => exact absurd ⟨i, List.mem_range.1 hi, hb⟩ hno⟩
  rw [List.length_range] at this
  unfold cntU at h
  omega

theorem cntU_set {s : Nat → Slot} {i : Nat} (hi : i < 128) (hu : (s i).used = false) {x : Slot} (hx : x.used = true) : cntU (setS s i x) = cntU s + 1 := by
  have h1 : (usedL (setS s i x)).length ≤ (i :: usedL s).length := length_le_of_nodup (usedL_nodup _) fun j hj => by
    obtain ⟨h1, h2⟩ := mem_usedL.1 hj
    by_cases e : j = i
    · rw [e]; exact List.mem_cons_self ..
    · simp only [setS, e, if_false] at h2
      exact List.mem_cons_of_mem _ (mem_usedL.2 ⟨h1, h2⟩)
  have h2 : (i :: usedL s).length ≤ (usedL (setS s i x)).length := length_le_of_nodup (List.nodup_cons.2 ⟨(fun h => by
    have := (mem_usedL.1 h).2; rw [hu] at this; cases this), usedL_nodup _⟩) fun j hj => by
    rcases List.mem_cons.1 hj with rfl | hj
    · exact mem_usedL.2 ⟨hi, by simp [setS, hx]⟩
    · obtain ⟨h1, h2⟩ := mem_usedL.1 hj
      refine mem_usedL.2 ⟨h1, ?_⟩
      by_cases e : j = i
      · rw [e] at h2; rw [hu] at h2; cases h2
      · simp [setS, e, h2]
  simp only [List.length_cons] at h1 h2
  unfold cntU
  omega

/-! ### What a search comes to -/
theorem hit_eq {x : Slot} {p v c : Int} (h : hitB x p v c = true) : x.p = p ∧ x.v = v ∧ x.c = c := of_decide_eq_true h
theorem go_ends (s : Nat → Slot) (p v c : Int) (d : Nat) : ∀ i, i < 128 → (s ((i + d) % 128)).used = false → (s (go s p v c (d + 1) i)).used = false ∨ hitB (s (go s p v c (d + 1) i)) p v c = true := by
  induction d with
  | zero =>
    intro i hi hu
    rw [Nat.add_zero, Nat.mod_eq_of_lt hi] at hu
    left
    rw [go_stop _ _ _ _ _ _ (.inl hu)]; exact hu
  | succ d ih =>
    intro i hi hu
    by_cases h : (s i).used = true ∧ hitB (s i) p v c = false
    · rw [go_next _ _ _ _ _ _ h.1 h.2]
      exact ih _ (Nat.mod_lt _ (by decide)) (by rw [show ((i + 1) % 128 + d) % 128 = (i + (d + 1)) % 128 by omega]; exact hu)
    · have h' : (s i).used = false ∨ hitB (s i) p v c = true := by
        cases h1 : (s i).used with
        | false => exact .inl rfl
        | true =>
          cases h2 : hitB (s i) p v c with
          | true => exact .inr rfl
          | false => exact absurd ⟨h1, h2⟩ h
      rw [go_stop _ _ _ _ _ _ h']; exact h'
theorem find_ends {s : Nat → Slot} (p v c : Int) {e : Nat} (he : e < 128) (hu : (s e).used = false) : (s (findN s p v c)).used = false ∨ hitB (s (findN s p v c)) p v c = true := by
  obtain ⟨d, h1, h2⟩ := find_start s p v c e he hu
  rw [← h2]
  exact go_ends s p v c d _ (homeN_lt p v c) (by rw [h1]; exact hu)

/-- A slot that a search doesn't end at, and that is free, plays no part. -/
theorem go_set_other (s : Nat → Slot) (p v c : Int) (i0 : Nat) (x : Slot) (hu0 : (s i0).used = false) (f : Nat) : ∀ i, go s p v c f i ≠ i0 → go (setS s i0 x) p v c f i = go s p v c f i := by
  induction f with
  | zero => intro i _; rfl
  | succ f ih =>
    intro i hne
    by_cases e : i = i0
    · subst e
      exact absurd (go_stop s p v c f i (.inl hu0)) hne
    · by_cases h : (s i).used = true ∧ hitB (s i) p v c = false
      · rw [go_next _ _ _ _ _ _ h.1 h.2] at hne ⊢
        rw [go_next _ _ _ _ _ _ (by simp [setS, e, h.1]) (by simp [setS, e, h.2])]
        exact ih _ hne
      · have h' : (s i).used = false ∨ hitB (s i) p v c = true := by
          cases h1 : (s i).used with
          | false => exact .inl rfl
          | true =>
            cases h2 : hitB (s i) p v c with
            | true => exact .inr rfl
            | false => exact absurd ⟨h1, h2⟩ h
        rw [go_stop _ _ _ _ _ _ h', go_stop _ _ _ _ _ _ (by simpa [setS, e] using h')]
/-- One that a search ends at: with the key itself there it ends there still. -/
theorem go_set_same (s : Nat → Slot) (p v c n : Int) (i0 : Nat) (hu0 : (s i0).used = false) (f : Nat) : ∀ i, go s p v c f i = i0 → go (setS s i0 ⟨p, v, c, n, true⟩) p v c f i = i0 := by
  induction f with
  | zero => intro i h; exact h
  | succ f ih =>
    intro i hq
    by_cases e : i = i0
    · subst e
      exact go_stop _ _ _ _ _ _ (.inr (by simp [setS, hitB]))
    · by_cases h : (s i).used = true ∧ hitB (s i) p v c = false
      · rw [go_next _ _ _ _ _ _ h.1 h.2] at hq
        rw [go_next _ _ _ _ _ _ (by simp [setS, e, h.1]) (by simp [setS, e, h.2])]
        exact ih _ hq
      · have h' : (s i).used = false ∨ hitB (s i) p v c = true := by
          cases h1 : (s i).used with
          | false => exact .inl rfl
          | true =>
            cases h2 : hitB (s i) p v c with
            | true => exact .inr rfl
            | false => exact absurd ⟨h1, h2⟩ h
        rw [go_stop _ _ _ _ _ _ h'] at hq
        exact absurd hq e

/-! ### A table that is in order -/
structure Inv (s : Nat → Slot) (len room : Int) : Prop where
  own : ∀ i, i < 128 → (s i).used = true → findN s (s i).p (s i).v (s i).c = i
  zero : ∀ i, i < 128 → (s i).used = false → s i = noSlot
  right : ∀ i, i < 128 → (s i).used = true → rightB (s i).p (s i).v (s i).c = true
  cnt : len = (cntU s : Nat)
  fits : len ≤ room
  cap : room ≤ 64
theorem Inv.lt {s : Nat → Slot} {len room : Int} (h : Inv s len room) : cntU s < 128 := by have := h.cnt; have := h.fits; have := h.cap; omega
theorem Inv.unused {s : Nat → Slot} {len room : Int} (h : Inv s len room) : ∃ e, e < 128 ∧ (s e).used = false := exists_unused h.lt
theorem Inv.new (m : Int) : Inv noSlots 0 (imax 0 (imin m 64)) := by
  have h0 : usedL noSlots = [] := by simp [usedL, noSlots, noSlot]
  refine ⟨fun i _ h => (by cases h), fun i _ _ => rfl, fun i _ h => (by cases h), by unfold cntU; rw [h0]; rfl, by unfold imax imin; split <;> split <;> omega, by unfold imax imin; split <;> split <;> omega⟩

/-- The number that a key has. -/
def val (s : Nat → Slot) (p v c : Int) : Option Int := if there s p v c = true then some (s (findN s p v c)).n else none
theorem there_key {s : Nat → Slot} {len room : Int} (h : Inv s len room) {p v c : Int} (ht : there s p v c = true) : (s (findN s p v c)).p = p ∧ (s (findN s p v c)).v = v ∧ (s (findN s p v c)).c = c := by
  obtain ⟨e, he, hu⟩ := h.unused
  have := find_ends p v c he hu
  unfold there at ht
  rw [ht] at this
  rcases this with h1 | h1
  · cases h1
  · exact hit_eq h1
theorem Inv.put {s : Nat → Slot} {len room : Int} (h : Inv s len room) (p v c n : Int) : Inv (putS s len room p v c n) (putL s len room p v c) room := by
  unfold putS putL
  by_cases h0 : putC s len room p v c = 0
  · rw [if_pos h0, if_pos h0]
    have hr : rightB p v c = true ∧ (s (findN s p v c)).used = false ∧ len < room := by
      unfold putC at h0
      split at h0
      · rename_i hr
        split at h0
        · omega
        · rename_i hu
          split at h0
          · omega
          · exact ⟨hr, by simpa using hu, by omega⟩
      · omega
    obtain ⟨hr, hu, hlt⟩ := hr
    have hi := findN_lt s p v c
    refine ⟨fun i hi' hiu => ?_, fun i hi' hiu => ?_, fun i hi' hiu => ?_, ?_, by omega, h.cap⟩
    · by_cases e : i = findN s p v c
      · subst e
        have e0 : setS s (findN s p v c) ⟨p, v, c, n, true⟩ (findN s p v c) = ⟨p, v, c, n, true⟩ := by simp [setS]
        rw [e0]
        exact go_set_same s p v c n _ hu 128 _ rfl
      · have e0 : setS s (findN s p v c) ⟨p, v, c, n, true⟩ i = s i := by simp [setS, e]
        rw [e0] at hiu ⊢
        have ho := h.own i hi' hiu
        have hq := go_set_other s (s i).p (s i).v (s i).c (findN s p v c) ⟨p, v, c, n, true⟩ hu 128 (homeN (s i).p (s i).v (s i).c) (by
          have : go s (s i).p (s i).v (s i).c 128 (homeN (s i).p (s i).v (s i).c) = i := ho
          rw [this]; exact e)
        exact hq.trans ho
    · by_cases e : i = findN s p v c
      · subst e; simp [setS] at hiu
      · have e0 : setS s (findN s p v c) ⟨p, v, c, n, true⟩ i = s i := by simp [setS, e]
        rw [e0] at hiu ⊢
        exact h.zero i hi' hiu
    · by_cases e : i = findN s p v c
      · subst e; simpa [setS] using hr
      · have e0 : setS s (findN s p v c) ⟨p, v, c, n, true⟩ i = s i := by simp [setS, e]
        rw [e0] at hiu ⊢
        exact h.right i hi' hiu
    · rw [cntU_set hi hu rfl, h.cnt]; simp
  · rw [if_neg h0, if_neg h0]; exact h

theorem putC_ok {s : Nat → Slot} {len room p v c : Int} : putC s len room p v c = 0 ↔ rightB p v c = true ∧ there s p v c = false ∧ len < room := by
  unfold putC there
  constructor
  · intro h0
    split at h0
    · rename_i hr
      split at h0
      · omega
      · rename_i hu
        split at h0
        · omega
        · exact ⟨hr, by simpa using hu, by omega⟩
    · omega
  · rintro ⟨h1, h2, h3⟩
    rw [if_pos h1, if_neg (by rw [h2]; simp), if_neg (by omega)]

theorem val_some {s : Nat → Slot} {len room : Int} (h : Inv s len room) {p v c x : Int} : val s p v c = some x ↔ ∃ i, i < 128 ∧ (s i).used = true ∧ (s i).p = p ∧ (s i).v = v ∧ (s i).c = c ∧ (s i).n = x := by
  unfold val
  constructor
  · intro hv
    split at hv
    · rename_i ht
      obtain ⟨h1, h2, h3⟩ := there_key h ht
      simp only [Option.some.injEq] at hv
      exact ⟨_, findN_lt s p v c, ht, h1, h2, h3, hv⟩
    · cases hv
  · rintro ⟨i, hi, hu, rfl, rfl, rfl, rfl⟩
    have ho := h.own i hi hu
    rw [if_pos (by unfold there; rw [ho]; exact hu), ho]
theorem val_there {s : Nat → Slot} {p v c : Int} : there s p v c = (val s p v c).isSome := by
  unfold val; cases there s p v c <;> rfl
theorem val_n {s : Nat → Slot} {len room : Int} (h : Inv s len room) (p v c : Int) : (s (findN s p v c)).n = (val s p v c).getD 0 := by
  unfold val
  cases ht : there s p v c with
  | true => rfl
  | false =>
    have := h.zero _ (findN_lt s p v c) ht
    rw [this]; rfl
theorem putC_ok' {s : Nat → Slot} {len room p v c : Int} : putC s len room p v c = 0 ↔ rightB p v c = true ∧ val s p v c = none ∧ len < room := by
  rw [putC_ok, val_there]
  cases val s p v c <;> simp
theorem val_put {s : Nat → Slot} {len room : Int} (h : Inv s len room) {p v c n : Int} (h0 : putC s len room p v c = 0) (p' v' c' : Int) :
    val (putS s len room p v c n) p' v' c' = if p' = p ∧ v' = v ∧ c' = c then some n else val s p' v' c' := by
  have hp := h.put p v c n
  obtain ⟨hr, hv, hlt⟩ := putC_ok'.1 h0
  have hu : (s (findN s p v c)).used = false := by have := (putC_ok.1 h0).2.1; exact this
  have e : putS s len room p v c n = setS s (findN s p v c) ⟨p, v, c, n, true⟩ := by unfold putS; rw [if_pos h0]
  apply Option.ext
  intro x
  rw [val_some hp, e]
  constructor
  · rintro ⟨i, hi, hiu, h1, h2, h3, h4⟩
    by_cases ei : i = findN s p v c
    · subst ei
      simp only [setS, if_true] at h1 h2 h3 h4
      rw [if_pos ⟨h1.symm, h2.symm, h3.symm⟩, h4]
    · have e0 : setS s (findN s p v c) ⟨p, v, c, n, true⟩ i = s i := by simp [setS, ei]
      rw [e0] at hiu h1 h2 h3 h4
      have hx := (val_some h).2 ⟨i, hi, hiu, h1, h2, h3, h4⟩
      rw [if_neg]
      · exact hx
      · rintro ⟨rfl, rfl, rfl⟩
        rw [hv] at hx; cases hx
  · intro hx
    split at hx
    · rename_i hk
      obtain ⟨rfl, rfl, rfl⟩ := hk
      simp only [Option.some.injEq] at hx
      exact ⟨_, findN_lt s p' v' c', by simp [setS, hx]⟩
    · obtain ⟨i, hi, hiu, h1, h2, h3, h4⟩ := (val_some h).1 hx
      have ei : i ≠ findN s p v c := by rintro rfl; rw [hu] at hiu; cases hiu
      have e0 : setS s (findN s p v c) ⟨p, v, c, n, true⟩ i = s i := by simp [setS, ei]
      exact ⟨i, hi, by rw [e0]; exact ⟨hiu, h1, h2, h3, h4⟩⟩
theorem put_not {s : Nat → Slot} {len room p v c n : Int} (h0 : putC s len room p v c ≠ 0) : putS s len room p v c n = s ∧ putL s len room p v c = len := by
  unfold putS putL; rw [if_neg h0, if_neg h0]; exact ⟨rfl, rfl⟩
end Go.Proofs.YthchmlidobgkoaaGreat
end

section
/- Package conns: the table's functions, said of a table that is in order. -/
set_option linter.unusedVariables false
set_option linter.unusedSimpArgs false
namespace Go.Proofs.YthchmlidobgkoaaGreat
open Go.Vc Go.RowKit

theorem get_tab {b : Nat} {s : Nat → Slot} {len room : Int} (p v c : Int) {w : World} (ht : Own w b (encT s len room) 82) (hi : Inv s len room) :
    CV Tryz.prog 25 #[.pointer (some ⟨b, 0, none⟩), .agg #[.int .i64 p, .int .i64 v, .int .i64 c]] w fun x w1 => x = .tuple #[.int .i64 ((val s p v c).getD 0), .bool (val s p v c).isSome] ∧ Step No w w1 := by
  obtain ⟨e, he, hu⟩ := hi.unused
  refine (get_any b s len room p v c w ht e he hu).mono ?_
  rintro x w1 ⟨rfl, hs⟩
  exact ⟨by rw [← val_n hi, ← val_there]; rfl, hs⟩
theorem put_tab {b : Nat} {s : Nat → Slot} {len room : Int} (p v c n : Int) {w : World} (ht : Own w b (encT s len room) 82) (hi : Inv s len room) :
    CV Tryz.prog 35 #[.pointer (some ⟨b, 0, none⟩), .agg #[.int .i64 p, .int .i64 v, .int .i64 c], .int .i64 n] w fun x w1 => x = .int .i64 (putC s len room p v c) ∧ Own w1 b (encT (putS s len room p v c n) (putL s len room p v c) room) 82 ∧ Inv (putS s len room p v c n) (putL s len room p v c) room ∧ Step (Just b) w w1 := by
  obtain ⟨e, he, hu⟩ := hi.unused
  refine (put_any b s len room p v c n w ht e he hu (by have := hi.cnt; omega) (by have := hi.fits; have := hi.cap; omega)).mono ?_
  rintro x w1 ⟨rfl, h1, h2⟩
  exact ⟨rfl, h1, hi.put p v c n, h2⟩
theorem len_tab {b : Nat} {s : Nat → Slot} {len room : Int} {w : World} (ht : Own w b (encT s len room) 82) :
    CV Tryz.prog 26 #[.pointer (some ⟨b, 0, none⟩)] w fun x w1 => x = .int .i64 len ∧ Step No w w1 := len_any b s len room w ht

/-- What is done: a key, a number. -/
structure Op4 where
  p : Int
  v : Int
  c : Int
  n : Int
def OpsB (w : World) (b o n : Nat) (q : Nat → Op4) : Prop := ∀ i, i < n →
  w.cell? ⟨b, o + i * 4, none⟩ = some (.int .i64 (q i).p) ∧ w.cell? ⟨b, o + i * 4 + 1, none⟩ = some (.int .i64 (q i).v) ∧ w.cell? ⟨b, o + i * 4 + 2, none⟩ = some (.int .i64 (q i).c) ∧ w.cell? ⟨b, o + i * 4 + 3, none⟩ = some (.int .i64 (q i).n)
theorem OpsB.key {w w1 : World} {b o n : Nat} {q : Nat → Op4} (h : OpsB w b o n q) (hs : Step No w w1) {P : Program} {t : TypeId} (ht : aggB P t = some 3) (i : Nat) (hi : i < n) : Loads P t w1 ⟨b, o + i * 4, none⟩ (.agg #[.int .i64 (q i).p, .int .i64 (q i).v, .int .i64 (q i).c]) := by
  obtain ⟨h1, h2, h3, _⟩ := h i hi
  refine Loads.cells ht _ rfl fun j hj => ?_
  rw [add_none]
  match j, hj with
  | 0, _ => exact hs.cell id h1
  | 1, _ => exact hs.cell id h2
  | 2, _ => exact hs.cell id h3
end Go.Proofs.YthchmlidobgkoaaGreat
end

section
/- Package conns in plain Lean: Drop: those that lie behind are laid anew. -/
set_option linter.unusedVariables false
set_option linter.unusedSimpArgs false
namespace Go.Proofs.YthchmlidobgkoaaGreat
open Go.Vc

def homeS (x : Slot) : Nat := homeN x.p x.v x.c
/-- Places, told from a place e on. -/
def atE (e k : Nat) : Nat := (e + k) % 128
def offE (e i : Nat) : Nat := (i + 128 - e) % 128
theorem atE_lt (e k : Nat) : atE e k < 128 := Nat.mod_lt _ (by decide)
theorem offE_lt (e i : Nat) : offE e i < 128 := Nat.mod_lt _ (by decide)
theorem atE_off {e i : Nat} (he : e < 128) (hi : i < 128) : atE e (offE e i) = i := by unfold atE offE; omega
theorem offE_at {e k : Nat} (he : e < 128) (hk : k < 128) : offE e (atE e k) = k := by unfold atE offE; omega
theorem atE_succ {e k : Nat} (he : e < 128) : (atE e k + 1) % 128 = atE e (k + 1) := by unfold atE; omega
theorem atE_zero {e : Nat} (he : e < 128) : atE e 0 = e := by unfold atE; omega

theorem hit_self (x : Slot) : hitB x x.p x.v x.c = true := by simp [hitB]
/-- A search along a way of which all but the last place are taken, by other keys. -/
theorem go_along (s : Nat → Slot) (p v c : Int) (e : Nat) (he : e < 128) : ∀ (d h f : Nat), h + d < 128 → d < f → (∀ x, h ≤ x → x < h + d → (s (atE e x)).used = true ∧ hitB (s (atE e x)) p v c = false) →
    ((s (atE e (h + d))).used = false ∨ hitB (s (atE e (h + d))) p v c = true) → go s p v c f (atE e h) = atE e (h + d)
  | 0, h, f, h1, h2, _, h4 => by
    obtain ⟨f, rfl⟩ : ∃ g, f = g + 1 := ⟨f - 1, by omega⟩
    exact go_stop s p v c f _ h4
  | d + 1, h, f, h1, h2, h3, h4 => by
    obtain ⟨f, rfl⟩ : ∃ g, f = g + 1 := ⟨f - 1, by omega⟩
    obtain ⟨a, b⟩ := h3 h (Nat.le_refl _) (by omega)
    rw [go_next _ _ _ _ _ _ a b, atE_succ he]
    have := go_along s p v c e he d (h + 1) f (by omega) (by omega) (fun x hx1 hx2 => h3 x (by omega) (by omega)) (by rw [show h + 1 + d = h + (d + 1) by omega]; exact h4)
    rw [this]; congr 1; omega
/-- Where a search that starts at e's h-th place stops: the first place that is free, or has the key. -/
theorem go_first (s : Nat → Slot) (p v c : Int) (e : Nat) (he : e < 128) (h k : Nat) (hk : k < 128) (hh : h ≤ k) (hs : (s (atE e k)).used = false ∨ hitB (s (atE e k)) p v c = true) :
    ∃ j, h ≤ j ∧ j ≤ k ∧ go s p v c 128 (atE e h) = atE e j ∧ (∀ x, h ≤ x → x < j → (s (atE e x)).used = true ∧ hitB (s (atE e x)) p v c = false) ∧ ((s (atE e j)).used = false ∨ hitB (s (atE e j)) p v c = true) := by
  -- the least j from h on at which it stops
  have key : ∀ n h, k - h = n → h ≤ k → ∃ j, h ≤ j ∧ j ≤ k ∧ (∀ x, h ≤ x → x < j → (s (atE e x)).used = true ∧ hitB (s (atE e x)) p v c = false) ∧ ((s (atE e j)).used = false ∨ hitB (s (atE e j)) p v c = true) := by
    intro n
    induction n with
    | zero => intro h hn hle; obtain rfl : h = k := (by omega); exact ⟨h, Nat.le_refl _, Nat.le_refl _, fun x h1 h2 => by omega, hs⟩
    | succ n ih =>
      intro h hn hle
      by_cases hst : (s (atE e h)).used = false ∨ hitB (s (atE e h)) p v c = true
      · exact ⟨h, Nat.le_refl _, hle, fun x h1 h2 => by omega, hst⟩
      · obtain ⟨j, h1, h2, h3, h4⟩ := ih (h + 1) (by omega) (by omega)
        refine ⟨j, by omega, h2, fun x hx1 hx2 => ?_, h4⟩
        by_cases ex : x = h
        · subst ex
          constructor
          · cases hu : (s (atE e x)).used
            · exact absurd (.inl hu) hst
            · rfl
          · cases hb : hitB (s (atE e x)) p v c
            · rfl
            · exact absurd (.inr hb) hst
        · exact h3 x (by omega) hx2
  obtain ⟨j, h1, h2, h3, h4⟩ := key _ h rfl hh
  refine ⟨j, h1, h2, ?_, h3, h4⟩
  have := go_along s p v c e he (j - h) h 128 (by omega) (by omega) (fun x hx1 hx2 => h3 x hx1 (by omega)) (by rw [show h + (j - h) = j by omega]; exact h4)
  rw [this]; congr 1; omega

/-- No key lies at two places. -/
def Apart (s : Nat → Slot) : Prop := ∀ i j, i < 128 → j < 128 → (s i).used = true → (s j).used = true → (s i).p = (s j).p → (s i).v = (s j).v → (s i).c = (s j).c → i = j
theorem Inv.apart {s : Nat → Slot} {len room : Int} (h : Inv s len room) : Apart s := by
  intro i j hi hj ui uj h1 h2 h3
  have a := h.own i hi ui
  rw [h1, h2, h3] at a
  exact a.symm.trans (h.own j hj uj)
/-- Each place from a key's home on is taken, up to its own, but for those of H. -/
structure LinI (s : Nat → Slot) (e : Nat) (H : Nat → Nat → Prop) : Prop where
  free : (s e).used = false
  way : ∀ k, k < 128 → (s (atE e k)).used = true → offE e (homeS (s (atE e k))) ≤ k ∧ ∀ x, offE e (homeS (s (atE e k))) ≤ x → x < k → (s (atE e x)).used = true ∨ H k x
  pos : ∀ k, k < 128 → (s (atE e k)).used = true → 0 < offE e (homeS (s (atE e k)))
theorem Inv.lin {s : Nat → Slot} {len room : Int} (h : Inv s len room) {e : Nat} (he : e < 128) (hu : (s e).used = false) : LinI s e (fun _ _ => False) := by
  refine ⟨hu, fun k hk hku => ?_, fun k hk hku => Nat.pos_of_ne_zero fun h0 => ?_⟩
  rotate_left
  · have hh : homeS (s (atE e k)) < 128 := homeN_lt _ _ _
    have hho : homeN (s (atE e k)).p (s (atE e k)).v (s (atE e k)).c = e := by
      have := atE_off he hh
      rw [h0, atE_zero he] at this; exact this.symm
    have ho := h.own (atE e k) (atE_lt e k) hku
    unfold findN at ho
    rw [hho, go_stop _ _ _ _ 127 _ (.inl hu)] at ho
    rw [← ho, hu] at hku; cases hku
  have hh : homeS (s (atE e k)) < 128 := homeN_lt _ _ _
  have ho := h.own (atE e k) (atE_lt e k) hku
  have hho : homeN (s (atE e k)).p (s (atE e k)).v (s (atE e k)).c = atE e (offE e (homeS (s (atE e k)))) := (atE_off he hh).symm
  unfold findN at ho
  rw [hho] at ho
  generalize hho2 : offE e (homeS (s (atE e k))) = ho2 at *
  have hl : ho2 < 128 := by rw [← hho2]; exact offE_lt _ _
  by_cases hle : ho2 ≤ k
  · refine ⟨hle, fun x hx1 hx2 => .inl ?_⟩
    obtain ⟨j, j1, j2, j3, j4, j5⟩ := go_first s (s (atE e k)).p (s (atE e k)).v (s (atE e k)).c e he ho2 k hk hle (.inr (hit_self _))
    rw [ho] at j3
    have hjk : k = j := by
      have := congrArg (offE e) j3
      rwa [offE_at he hk, offE_at he (by omega)] at this
    exact (j4 x hx1 (by omega)).1
  · exfalso
    -- the search ends ahead of e's own place: at 127 + 1 it is free
    have h128 : atE e 128 = e := by unfold atE; omega
    have walk : ∀ f h, ho2 ≤ h → h ≤ 128 → 128 - h < f → ∃ j, h ≤ j ∧ j ≤ 128 ∧ go s (s (atE e k)).p (s (atE e k)).v (s (atE e k)).c f (atE e h) = atE e j := by
      intro f
      induction f with
      | zero => intro h _ _ hf; omega
      | succ f ih =>
        intro h h1 h2 h3
        by_cases hst : (s (atE e h)).used = true ∧ hitB (s (atE e h)) (s (atE e k)).p (s (atE e k)).v (s (atE e k)).c = false
        · have hne : h ≠ 128 := by rintro rfl; rw [h128, hu] at hst; cases hst.1
          rw [go_next _ _ _ _ _ _ hst.1 hst.2, atE_succ he]
          obtain ⟨j, j1, j2, j3⟩ := ih (h + 1) (by omega) (by omega) (by omega)
          exact ⟨j, by omega, j2, j3⟩
        · refine ⟨h, Nat.le_refl _, h2, go_stop _ _ _ _ _ _ ?_⟩
          cases hu2 : (s (atE e h)).used
          · exact .inl rfl
          · cases hb2 : hitB (s (atE e h)) (s (atE e k)).p (s (atE e k)).v (s (atE e k)).c
            · exact absurd ⟨hu2, hb2⟩ hst
            · exact .inr rfl
    obtain ⟨j, j1, j2, j3⟩ := walk 128 ho2 (Nat.le_refl _) (by omega) (by
      have : 0 < ho2 := by omega
      omega)
    rw [ho] at j3
    by_cases ej : j = 128
    · rw [ej, h128] at j3; rw [j3, hu] at hku; cases hku
    · have := congrArg (offE e) j3
      rw [offE_at he hk, offE_at he (by omega)] at this
      omega
/-- And back. -/
theorem LinI.own {s : Nat → Slot} {e : Nat} (h : LinI s e (fun _ _ => False)) (he : e < 128) (ha : Apart s) : ∀ i, i < 128 → (s i).used = true → findN s (s i).p (s i).v (s i).c = i := by
  intro i hi hiu
  have ei := atE_off he hi
  have hk := offE_lt e i
  obtain ⟨w1, w2⟩ := h.way (offE e i) hk (by rw [ei]; exact hiu)
  rw [ei] at w1 w2
  have hh : homeS (s i) < 128 := homeN_lt _ _ _
  have hho : homeN (s i).p (s i).v (s i).c = atE e (offE e (homeS (s i))) := (atE_off he hh).symm
  unfold findN
  rw [hho]
  generalize offE e (homeS (s i)) = ho at *
  have := go_along s (s i).p (s i).v (s i).c e he (offE e i - ho) ho 128 (by omega) (by omega) (fun x hx1 hx2 => by
    have hu := (w2 x hx1 (by omega)).resolve_right id
    refine ⟨hu, ?_⟩
    cases hb : hitB (s (atE e x)) (s i).p (s i).v (s i).c
    · rfl
    · obtain ⟨b1, b2, b3⟩ := hit_eq hb
      have := ha _ _ (atE_lt e x) hi hu hiu b1 b2 b3
      have := congrArg (offE e) this
      rw [offE_at he (by omega)] at this
      omega) (by rw [show ho + (offE e i - ho) = offE e i by omega, ei]; exact .inr (hit_self _))
  rw [this, show ho + (offE e i - ho) = offE e i by omega, ei]
/-! ### The loop that lays anew -/
/-- k places behind e is the next one that is laid anew. -/
structure DropI (s : Nat → Slot) (e k : Nat) : Prop where
  lin : LinI s e (fun j x => k ≤ j ∧ x < k)
  apart : Apart s
  zero : ∀ i, i < 128 → (s i).used = false → s i = noSlot
/-- What a table holds. -/
def HasS (s : Nat → Slot) (x : Slot) : Prop := x.used = true ∧ ∃ i, i < 128 ∧ s i = x
theorem setS_eq (s : Nat → Slot) (i : Nat) (x : Slot) : setS s i x i = x := by simp [setS]
theorem setS_ne {s : Nat → Slot} {i j : Nat} (h : j ≠ i) (x : Slot) : setS s i x j = s j := by simp [setS, h]
/-- A place is emptied: what lies behind it may have a hole ahead. -/
theorem LinI.clear {s : Nat → Slot} {e k : Nat} (h : LinI s e (fun j x => k ≤ j ∧ x < k)) (he : e < 128) (hk : k < 128) : LinI (setS s (atE e k) noSlot) e (fun j x => k + 1 ≤ j ∧ x < k + 1) := by
  refine ⟨?_, fun j hj hju => ?_, fun j hj hju => ?_⟩
  rotate_right
  · by_cases ej : j = k
    · subst ej; rw [setS_eq] at hju; cases hju
    · have hne : atE e j ≠ atE e k := fun e1 => ej (by have := congrArg (offE e) e1; rwa [offE_at he hj, offE_at he hk] at this)
      rw [setS_ne hne] at hju ⊢
      exact h.pos j hj hju
  · by_cases h0 : e = atE e k
    · rw [← h0, setS_eq]; rfl
    · rw [setS_ne h0]; exact h.free
  · by_cases ej : j = k
    · subst ej; rw [setS_eq] at hju; cases hju
    · have hne : atE e j ≠ atE e k := fun e1 => ej (by have := congrArg (offE e) e1; rwa [offE_at he hj, offE_at he hk] at this)
      rw [setS_ne hne] at hju ⊢
      obtain ⟨w1, w2⟩ := h.way j hj hju
      refine ⟨w1, fun x hx1 hx2 => ?_⟩
      by_cases ex : x = k
      · right; omega
      · have hne2 : atE e x ≠ atE e k := fun e1 => ex (by have := congrArg (offE e) e1; rwa [offE_at he (by omega), offE_at he hk] at this)
        rw [setS_ne hne2]
        rcases w2 x hx1 hx2 with h1 | h1
        · exact .inl h1
        · right; omega
theorem Apart.clear {s : Nat → Slot} (h : Apart s) (i : Nat) : Apart (setS s i noSlot) := by
  intro a b ha hb ua ub
  have na : a ≠ i := by rintro rfl; rw [setS_eq] at ua; cases ua
  have nb : b ≠ i := by rintro rfl; rw [setS_eq] at ub; cases ub
  rw [setS_ne na] at ua ⊢
  rw [setS_ne nb] at ub ⊢
  exact h a b ha hb ua ub
theorem zero_clear {s : Nat → Slot} (h : ∀ i, i < 128 → (s i).used = false → s i = noSlot) (i : Nat) : ∀ j, j < 128 → (setS s i noSlot j).used = false → setS s i noSlot j = noSlot := by
  intro j hj hu
  by_cases e : j = i
  · subst e; rw [setS_eq]
  · rw [setS_ne e] at hu ⊢; exact h j hj hu
/-- It is laid anew. -/
theorem DropI.next {s : Nat → Slot} {e k : Nat} (h : DropI s e k) (he : e < 128) (hk : k < 128) (hu : (s (atE e k)).used = true) :
    ∃ f, f < 128 ∧ findN (setS s (atE e k) noSlot) (s (atE e k)).p (s (atE e k)).v (s (atE e k)).c = f ∧ (setS s (atE e k) noSlot f).used = false ∧
      DropI (setS (setS s (atE e k) noSlot) f (s (atE e k))) e (k + 1) ∧ (∀ x, HasS (setS (setS s (atE e k) noSlot) f (s (atE e k))) x ↔ HasS s x) := by
  generalize hX : s (atE e k) = X at *
  have hl := h.lin.clear he hk
  have ha := h.apart.clear (atE e k)
  have hz := zero_clear h.zero (atE e k)
  obtain ⟨w1, w2⟩ := h.lin.way k hk (by rw [hX]; exact hu)
  rw [hX] at w1 w2
  have hh : homeS X < 128 := homeN_lt _ _ _
  have hho : homeN X.p X.v X.c = atE e (offE e (homeS X)) := (atE_off he hh).symm
  obtain ⟨j, j1, j2, j3, j4, j5⟩ := go_first (setS s (atE e k) noSlot) X.p X.v X.c e he (offE e (homeS X)) k hk w1 (.inl (by rw [setS_eq]; rfl))
  -- the key is nowhere else
  have hno : ∀ i, i < 128 → (setS s (atE e k) noSlot i).used = true → hitB (setS s (atE e k) noSlot i) X.p X.v X.c = false := by
    intro i hi hiu
    have ni : i ≠ atE e k := by rintro rfl; rw [setS_eq] at hiu; cases hiu
    rw [setS_ne ni] at hiu ⊢
    cases hb : hitB (s i) X.p X.v X.c
    · rfl
    · obtain ⟨b1, b2, b3⟩ := hit_eq hb
      exact absurd (h.apart i (atE e k) hi (atE_lt e k) hiu (by rw [hX]; exact hu) (by rw [hX, b1]) (by rw [hX, b2]) (by rw [hX, b3])) ni
  have hju : (setS s (atE e k) noSlot (atE e j)).used = false := by
    rcases j5 with h5 | h5
    · exact h5
    · cases hq : (setS s (atE e k) noSlot (atE e j)).used
      · rfl
      · rw [hno _ (atE_lt e j) hq] at h5; cases h5
  refine ⟨atE e j, atE_lt e j, by unfold findN; rw [hho]; exact j3, hju, ⟨⟨?_, ?_, ?_⟩, ?_, ?_⟩, ?_⟩
  rotate_left 2
  · intro i hi hiu
    by_cases ei : i = j
    · subst ei
      rw [setS_eq] at hiu ⊢
      have hp := h.lin.pos k hk (by rw [hX]; exact hu)
      rwa [hX] at hp
    · have hne : atE e i ≠ atE e j := fun e1 => ei (by have := congrArg (offE e) e1; rwa [offE_at he hi, offE_at he (by omega)] at this)
      rw [setS_ne hne] at hiu ⊢
      exact hl.pos i hi hiu
  rotate_right 2
  · -- e stays free
    by_cases e0 : e = atE e j
    · exfalso
      have hj0 : j = 0 := by have := congrArg (offE e) e0; rw [offE_at he (by omega)] at this; rw [← this]; unfold offE; omega
      -- home is e: then the way from there on had e in it
      have hp := h.lin.pos k hk (by rw [hX]; exact hu)
      rw [hX] at hp
      omega
    · rw [setS_ne e0]; exact hl.free
  · intro i hi hiu
    by_cases ei : i = j
    · subst ei
      rw [setS_eq] at hiu ⊢
      refine ⟨j1, fun x hx1 hx2 => .inl ?_⟩
      have hne : atE e x ≠ atE e i := fun e1 => by have := congrArg (offE e) e1; rw [offE_at he (by omega), offE_at he (by omega)] at this; omega
      rw [setS_ne hne]
      exact (j4 x hx1 hx2).1
    · have hne : atE e i ≠ atE e j := fun e1 => ei (by have := congrArg (offE e) e1; rwa [offE_at he hi, offE_at he (by omega)] at this)
      rw [setS_ne hne] at hiu ⊢
      obtain ⟨v1, v2⟩ := hl.way i hi hiu
      refine ⟨v1, fun x hx1 hx2 => ?_⟩
      rcases v2 x hx1 hx2 with h1 | h1
      · left
        by_cases ex : atE e x = atE e j
        · rw [ex, setS_eq]; exact hu
        · rw [setS_ne ex]; exact h1
      · exact .inr h1
  · intro a b ha' hb' ua ub c1 c2 c3
    by_cases ea : a = atE e j
    · by_cases eb : b = atE e j
      · rw [ea, eb]
      · exfalso
        rw [ea, setS_eq] at c1 c2 c3
        rw [setS_ne eb] at ub c1 c2 c3
        have := hno b hb' ub
        rw [show hitB (setS s (atE e k) noSlot b) X.p X.v X.c = true by simp [hitB, c1, c2, c3]] at this
        cases this
    · by_cases eb : b = atE e j
      · exfalso
        rw [eb, setS_eq] at c1 c2 c3
        rw [setS_ne ea] at ua c1 c2 c3
        have := hno a ha' ua
        rw [show hitB (setS s (atE e k) noSlot a) X.p X.v X.c = true by simp [hitB, c1, c2, c3]] at this
        cases this
      · rw [setS_ne ea] at ua c1 c2 c3
        rw [setS_ne eb] at ub c1 c2 c3
        exact ha a b ha' hb' ua ub c1 c2 c3
  · intro i hi hiu
    by_cases ei : i = atE e j
    · rw [ei, setS_eq, hu] at hiu; cases hiu
    · rw [setS_ne ei] at hiu ⊢; exact hz i hi hiu
  · intro x
    constructor
    · rintro ⟨hx, i, hi, hix⟩
      refine ⟨hx, ?_⟩
      by_cases ei : i = atE e j
      · rw [ei, setS_eq] at hix; exact ⟨atE e k, atE_lt e k, by rw [hX]; exact hix⟩
      · rw [setS_ne ei] at hix
        by_cases ei2 : i = atE e k
        · rw [ei2, setS_eq] at hix; rw [← hix] at hx; cases hx
        · rw [setS_ne ei2] at hix; exact ⟨i, hi, hix⟩
    · rintro ⟨hx, i, hi, hix⟩
      refine ⟨hx, ?_⟩
      by_cases ei2 : i = atE e k
      · exact ⟨atE e j, atE_lt e j, by rw [setS_eq, ← hX, ← ei2]; exact hix⟩
      · have : i ≠ atE e j := by
          rintro rfl
          rw [setS_ne ei2, hix, hx] at hju; cases hju
        exact ⟨i, hi, by rw [setS_ne this, setS_ne ei2]; exact hix⟩
/-- The loop's end: what lies behind is in order. -/
theorem DropI.done {s : Nat → Slot} {e k : Nat} (h : DropI s e k) (he : e < 128) (hk : k < 128 ∧ (s (atE e k)).used = false ∨ k = 128) : ∀ i, i < 128 → (s i).used = true → findN s (s i).p (s i).v (s i).c = i := by
  refine LinI.own ⟨h.lin.free, fun j hj hju => ?_, h.lin.pos⟩ he h.apart
  obtain ⟨w1, w2⟩ := h.lin.way j hj hju
  refine ⟨w1, fun x hx1 hx2 => .inl ?_⟩
  rcases w2 x hx1 hx2 with h1 | ⟨h1, h2⟩
  · exact h1
  · -- j lies behind the free place k: its way has k in it
    rcases hk with ⟨hk, hku⟩ | hk
    · by_cases ejk : j = k
      · subst ejk; rw [hku] at hju; cases hju
      · rcases w2 k (by omega) (by omega) with h3 | h3
        · rw [hku] at h3; cases h3
        · omega
    · omega
end Go.Proofs.YthchmlidobgkoaaGreat
end

section
/- Package conns in plain Lean: a table is a list of entries, in order. -/
set_option linter.unusedVariables false
set_option linter.unusedSimpArgs false
namespace Go.Proofs.YthchmlidobgkoaaGreat
open Go.Vc
/-- An entry: a key, a number. -/
structure Ent where
  p : Int
  v : Int
  c : Int
  n : Int
deriving DecidableEq
def Ent.slot (x : Ent) : Slot := ⟨x.p, x.v, x.c, x.n, true⟩
def Slot.ent (x : Slot) : Ent := ⟨x.p, x.v, x.c, x.n⟩
/-- Is a key ahead of another one? -/
def befK (p v c p' v' c' : Int) : Bool := decide (p < p' ∨ p = p' ∧ (v < v' ∨ v = v' ∧ c < c'))
def befE (x y : Ent) : Bool := befK x.p x.v x.c y.p y.v y.c
def keyIs (x : Ent) (p v c : Int) : Bool := decide (x.p = p ∧ x.v = v ∧ x.c = c)
theorem befK_iff {p v c p' v' c' : Int} : befK p v c p' v' c' = true ↔ p < p' ∨ p = p' ∧ (v < v' ∨ v = v' ∧ c < c') := by simp [befK]
theorem befK_false {p v c p' v' c' : Int} : befK p v c p' v' c' = false ↔ ¬ (p < p' ∨ p = p' ∧ (v < v' ∨ v = v' ∧ c < c')) := by simp only [befK, decide_eq_false_iff_not]
theorem befE_irrefl (x : Ent) : befE x x = false := befK_false.2 (by omega)
theorem befE_trans {x y z : Ent} (h : befE x y = true) (k : befE y z = true) : befE x z = true := by
  have h := befK_iff.1 h
  have k := befK_iff.1 k
  exact befK_iff.2 (by omega)
theorem befE_total {x y : Ent} (h : ¬ (x.p = y.p ∧ x.v = y.v ∧ x.c = y.c)) (k : befE x y = false) : befE y x = true := by
  have k := befK_false.1 k
  exact befK_iff.2 (by omega)
theorem befE_ne {x y : Ent} (h : befE x y = true) : ¬ (x.p = y.p ∧ x.v = y.v ∧ x.c = y.c) := by
  have h := befK_iff.1 h
  omega
def SrtE (L : List Ent) : Prop := L.Pairwise fun x y => befE x y = true
theorem SrtE.nodup {L : List Ent} (h : SrtE L) : L.Nodup := by
  refine List.Pairwise.imp ?_ h
  rintro x y hxy rfl
  rw [befE_irrefl] at hxy; cases hxy
theorem SrtE.inj {L : List Ent} (h : SrtE L) {x y : Ent} (hx : x ∈ L) (hy : y ∈ L) (hk : x.p = y.p ∧ x.v = y.v ∧ x.c = y.c) : x = y := by
  induction L with
  | nil => simp at hx
  | cons z L ih =>
    obtain ⟨hz, hL⟩ := List.pairwise_cons.1 h
    rcases List.mem_cons.1 hx with e1 | hx1
    · rcases List.mem_cons.1 hy with e2 | hy1
      · rw [e1, e2]
      · rw [e1] at hk; exact absurd hk (befE_ne (hz y hy1))
    · rcases List.mem_cons.1 hy with e2 | hy1
      · rw [e2] at hk; exact absurd ⟨hk.1.symm, hk.2.1.symm, hk.2.2.symm⟩ (befE_ne (hz x hx1))
      · exact ih hL hx1 hy1
/-- Lists in order with the same members are one. -/
theorem srt_ext {L M : List Ent} (hL : SrtE L) (hM : SrtE M) (h : ∀ x, x ∈ L ↔ x ∈ M) : L = M := by
  induction L generalizing M with
  | nil =>
    cases M with
    | nil => rfl
    | cons y M => exact absurd ((h y).2 (by simp)) (by simp)
  | cons x L ih =>
    cases M with
    | nil => exact absurd ((h x).1 (by simp)) (by simp)
    | cons y M =>
      obtain ⟨hx, hL'⟩ := List.pairwise_cons.1 hL
      obtain ⟨hy, hM'⟩ := List.pairwise_cons.1 hM
      have hxy : x = y := by
        rcases List.mem_cons.1 ((h x).1 (by simp)) with e | e
        · exact e
        · rcases List.mem_cons.1 ((h y).2 (by simp)) with e' | e'
          · exact e'.symm
          · have a := befE_trans (hy x e) (hx y e')
            rw [befE_irrefl] at a; cases a
      subst hxy
      congr 1
      refine ih hL' hM' fun z => ⟨fun hz => ?_, fun hz => ?_⟩
      · rcases List.mem_cons.1 ((h z).1 (by simp [hz])) with rfl | e
        · have a := hx z hz; rw [befE_irrefl] at a; cases a
        · exact e
      · rcases List.mem_cons.1 ((h z).2 (by simp [hz])) with rfl | e
        · have a := hy z hz; rw [befE_irrefl] at a; cases a
        · exact e
/-! ### What is done with a list -/
def lookE (L : List Ent) (p v c : Int) : Option Int := (L.find? fun x => keyIs x p v c).map (·.n)
def delE (L : List Ent) (p v c : Int) : List Ent := L.filter fun x => !keyIs x p v c
/-- How many are ahead of a key. -/
def aheadE : List Ent → Int → Int → Int → Nat
  | [], _, _, _ => 0
  | x :: L, p, v, c => bif befK x.p x.v x.c p v c then aheadE L p v c + 1 else 0
def insE (L : List Ent) (x : Ent) : List Ent := L.take (aheadE L x.p x.v x.c) ++ x :: L.drop (aheadE L x.p x.v x.c)
theorem insE_cons (y : Ent) (L : List Ent) (x : Ent) : insE (y :: L) x = bif befE y x then y :: insE L x else x :: y :: L := by
  unfold insE befE
  simp only [aheadE]
  cases befK y.p y.v y.c x.p x.v x.c <;> simp
theorem mem_insE {L : List Ent} {x y : Ent} : y ∈ insE L x ↔ y = x ∨ y ∈ L := by
  unfold insE
  rw [List.mem_append, List.mem_cons]
  constructor
  · rintro (h | h | h)
    · exact .inr (List.mem_of_mem_take h)
    · exact .inl h
    · exact .inr (List.mem_of_mem_drop h)
  · rintro (h | h)
    · exact .inr (.inl h)
    · rw [← List.take_append_drop (aheadE L x.p x.v x.c) L, List.mem_append] at h
      rcases h with h | h
      · exact .inl h
      · exact .inr (.inr h)
theorem insE_srt {L : List Ent} (h : SrtE L) {x : Ent} (hx : ∀ y ∈ L, ¬ (y.p = x.p ∧ y.v = x.v ∧ y.c = x.c)) : SrtE (insE L x) := by
  induction L with
  | nil => exact List.pairwise_cons.2 ⟨fun y hy => by simp at hy, List.Pairwise.nil⟩
  | cons y L ih =>
    obtain ⟨hy, hL⟩ := List.pairwise_cons.1 h
    rw [insE_cons]
    cases hb : befE y x with
    | true =>
      refine List.pairwise_cons.2 ⟨fun z hz => ?_, ih hL fun z hz => hx z (by simp [hz])⟩
      rcases mem_insE.1 hz with rfl | hz
      · exact hb
      · exact hy z hz
    | false =>
      have hxy := befE_total (hx y (by simp)) hb
      refine List.pairwise_cons.2 ⟨fun z hz => ?_, h⟩
      rcases List.mem_cons.1 hz with rfl | hz
      · exact hxy
      · exact befE_trans hxy (hy z hz)
theorem delE_srt {L : List Ent} (h : SrtE L) (p v c : Int) : SrtE (delE L p v c) := List.Pairwise.filter _ h
theorem mem_delE {L : List Ent} {p v c : Int} {x : Ent} : x ∈ delE L p v c ↔ x ∈ L ∧ ¬ (x.p = p ∧ x.v = v ∧ x.c = c) := by
  unfold delE
  rw [List.mem_filter]
  simp only [keyIs, Bool.not_eq_true', decide_eq_false_iff_not]
theorem lookE_some {L : List Ent} (h : SrtE L) {p v c n : Int} : lookE L p v c = some n ↔ ⟨p, v, c, n⟩ ∈ L := by
  unfold lookE
  constructor
  · intro h1
    obtain ⟨x, hx, rfl⟩ := Option.map_eq_some_iff.1 h1
    have h2 := List.mem_of_find?_eq_some hx
    have h3 := List.find?_some hx
    simp only [keyIs, decide_eq_true_eq] at h3
    obtain ⟨rfl, rfl, rfl⟩ := h3
    exact h2
  · intro h1
    cases hf : L.find? (fun x => keyIs x p v c) with
    | none => exact absurd (List.find?_eq_none.1 hf _ h1) (by simp [keyIs])
    | some y =>
      have h2 := List.mem_of_find?_eq_some hf
      have h3 := List.find?_some hf
      simp only [keyIs, decide_eq_true_eq] at h3
      have := h.inj h2 h1 h3
      rw [this]; rfl
theorem lookE_none {L : List Ent} {p v c : Int} : lookE L p v c = none ↔ ∀ y ∈ L, ¬ (y.p = p ∧ y.v = v ∧ y.c = c) := by
  unfold lookE
  rw [Option.map_eq_none_iff, List.find?_eq_none]
  simp [keyIs]
/-! ### A table holds a list -/
structure TabI (s : Nat → Slot) (len room : Int) (L : List Ent) : Prop where
  inv : Inv s len room
  srt : SrtE L
  mem : ∀ x : Ent, x ∈ L ↔ HasS s x.slot
theorem slot_ent {x : Slot} (h : x.used = true) : x.ent.slot = x := by cases x; simp_all [Slot.ent, Ent.slot]
theorem TabI.new (m : Int) : TabI noSlots 0 (imax 0 (imin m 64)) [] := ⟨Inv.new m, List.Pairwise.nil, fun x => ⟨fun h => by simp at h, fun ⟨_, i, _, h2⟩ => by have := congrArg Slot.used h2; cases this⟩⟩
theorem TabI.len {s : Nat → Slot} {len room : Int} {L : List Ent} (h : TabI s len room L) : len = (L.length : Nat) := by
  have hc : cntU s = L.length := by
    have hn : ((usedL s).map fun i => (s i).ent).Nodup := by
      rw [List.nodup_iff_pairwise_ne, List.pairwise_map]
      refine List.Pairwise.imp_of_mem ?_ (List.nodup_iff_pairwise_ne.1 (usedL_nodup s))
      intro i j hi hj hne heq
      obtain ⟨i1, i2⟩ := mem_usedL.1 hi
      obtain ⟨j1, j2⟩ := mem_usedL.1 hj
      exact hne (h.inv.apart i j i1 j1 i2 j2 (congrArg Ent.p heq) (congrArg Ent.v heq) (congrArg Ent.c heq))
    have h1 := length_le_of_nodup hn (m := L) fun x hx => by
      obtain ⟨i, hi, rfl⟩ := List.mem_map.1 hx
      obtain ⟨i1, i2⟩ := mem_usedL.1 hi
      refine (h.mem _).2 ?_
      rw [slot_ent i2]
      exact ⟨i2, i, i1, rfl⟩
    have h2 := length_le_of_nodup h.srt.nodup (m := (usedL s).map fun i => (s i).ent) fun x hx => by
      obtain ⟨hu, i, hi, hix⟩ := (h.mem x).1 hx
      exact List.mem_map.2 ⟨i, mem_usedL.2 ⟨hi, by rw [hix]; rfl⟩, by rw [hix]; rfl⟩
    rw [List.length_map] at h1 h2
    unfold cntU; omega
  rw [h.inv.cnt, hc]
theorem TabI.val {s : Nat → Slot} {len room : Int} {L : List Ent} (h : TabI s len room L) (p v c : Int) : val s p v c = lookE L p v c := by
  apply Option.ext
  intro n
  rw [val_some h.inv, lookE_some h.srt, h.mem]
  constructor
  · rintro ⟨i, hi, hu, rfl, rfl, rfl, rfl⟩
    refine ⟨rfl, i, hi, ?_⟩
    show s i = (s i).ent.slot
    rw [slot_ent hu]
  · rintro ⟨_, i, hi, hix⟩
    exact ⟨i, hi, by rw [hix]; exact ⟨rfl, rfl, rfl, rfl, rfl⟩⟩
theorem TabI.right {s : Nat → Slot} {len room : Int} {L : List Ent} (h : TabI s len room L) {x : Ent} (hx : x ∈ L) : rightB x.p x.v x.c = true := by
  obtain ⟨hu, i, hi, hix⟩ := (h.mem x).1 hx
  have := h.inv.right i hi (by rw [hix]; rfl)
  rwa [hix] at this
def putK (L : List Ent) (room p v c : Int) : Int := if rightB p v c = true then (if (lookE L p v c).isSome = true then 7 else if (L.length : Int) ≥ room then 9 else 0) else 1
def putE (L : List Ent) (room p v c n : Int) : List Ent := if putK L room p v c = 0 then insE L ⟨p, v, c, n⟩ else L
theorem TabI.putC {s : Nat → Slot} {len room : Int} {L : List Ent} (h : TabI s len room L) (p v c : Int) : putC s len room p v c = putK L room p v c := by
  have h1 : (s (findN s p v c)).used = (lookE L p v c).isSome := by rw [← h.val p v c, ← val_there]; rfl
  unfold Go.Proofs.YthchmlidobgkoaaGreat.putC putK
  rw [h1, h.len]
theorem putK_ok {L : List Ent} {room p v c : Int} : putK L room p v c = 0 ↔ rightB p v c = true ∧ lookE L p v c = none ∧ (L.length : Int) < room := by
  unfold putK
  constructor
  · intro h
    by_cases h1 : rightB p v c = true
    · rw [if_pos h1] at h
      by_cases h2 : (lookE L p v c).isSome = true
      · rw [if_pos h2] at h; omega
      · rw [if_neg h2] at h
        by_cases h3 : (L.length : Int) ≥ room
        · rw [if_pos h3] at h; omega
        · exact ⟨h1, by simpa using h2, by omega⟩
    · rw [if_neg h1] at h; omega
  · rintro ⟨h1, h2, h3⟩
    rw [if_pos h1, if_neg (by rw [h2]; simp), if_neg (by omega)]
theorem TabI.put {s : Nat → Slot} {len room : Int} {L : List Ent} (h : TabI s len room L) (p v c n : Int) : TabI (putS s len room p v c n) (putL s len room p v c) room (putE L room p v c n) := by
  have hi := h.inv.put p v c n
  by_cases h0 : Go.Proofs.YthchmlidobgkoaaGreat.putC s len room p v c = 0
  · have hk : putK L room p v c = 0 := by rw [← h.putC]; exact h0
    obtain ⟨k1, k2, k3⟩ := putK_ok.1 hk
    have e : putE L room p v c n = insE L ⟨p, v, c, n⟩ := by unfold putE; rw [if_pos hk]
    rw [e]
    refine ⟨hi, insE_srt h.srt (lookE_none.1 k2), fun x => ?_⟩
    have hv : ∀ m, Go.Proofs.YthchmlidobgkoaaGreat.val (putS s len room p v c n) x.p x.v x.c = some m ↔ _ := fun m => val_some hi
    rw [mem_insE]
    have hval := val_put (n := n) h.inv h0 x.p x.v x.c
    have hx : HasS (putS s len room p v c n) x.slot ↔ Go.Proofs.YthchmlidobgkoaaGreat.val (putS s len room p v c n) x.p x.v x.c = some x.n := by
      rw [val_some hi]
      constructor
      · rintro ⟨_, i, hi, hix⟩
        exact ⟨i, hi, by rw [hix]; exact ⟨rfl, rfl, rfl, rfl, rfl⟩⟩
      · rintro ⟨i, hi, hu, h1, h2, h3, h4⟩
        refine ⟨rfl, i, hi, ?_⟩
        have := slot_ent hu
        rw [← this]
        simp [Slot.ent, Ent.slot, h1, h2, h3, h4]
    rw [hx, hval]
    by_cases hk' : x.p = p ∧ x.v = v ∧ x.c = c
    · rw [if_pos hk']
      constructor
      · rintro (rfl | hL)
        · rfl
        · exact absurd hk' (lookE_none.1 k2 x hL)
      · intro hn
        left
        obtain ⟨a1, a2, a3⟩ := hk'
        simp only [Option.some.injEq] at hn
        cases x; simp_all
    · rw [if_neg hk', h.val, lookE_some h.srt]
      constructor
      · rintro (rfl | hL)
        · exact absurd ⟨rfl, rfl, rfl⟩ hk'
        · exact hL
      · exact .inr
  · have hk : ¬ putK L room p v c = 0 := by rw [← h.putC]; exact h0
    rw [(put_not (n := n) h0).1, (put_not (n := n) h0).2] at hi ⊢
    unfold putE
    rw [if_neg hk]
    exact ⟨hi, h.srt, h.mem⟩
/-- What is taken out. -/
theorem TabI.drop {s s' : Nat → Slot} {len room : Int} {L : List Ent} (h : TabI s len room L) {p v c n : Int} (hl : lookE L p v c = some n) {e k : Nat} (he : e < 128) (hd : DropI s' e k) (hk : k < 128 ∧ (s' (atE e k)).used = false ∨ k = 128)
    (hm : ∀ x, HasS s' x ↔ HasS (setS s (findN s p v c) noSlot) x) : TabI s' (len - 1) room (delE L p v c) := by
  have hv : Go.Proofs.YthchmlidobgkoaaGreat.val s p v c = some n := by rw [h.val]; exact hl
  have ht : there s p v c = true := by rw [val_there, hv]; rfl
  obtain ⟨t1, t2, t3⟩ := there_key h.inv ht
  have hu : (s (findN s p v c)).used = true := ht
  have hi := findN_lt s p v c
  have own := hd.done he hk
  have hmem : ∀ x : Ent, x ∈ delE L p v c ↔ HasS s' x.slot := by
    intro x
    rw [mem_delE, hm, h.mem]
    constructor
    · rintro ⟨⟨hu', i, hi', hix⟩, hne⟩
      refine ⟨hu', i, hi', ?_⟩
      have : i ≠ findN s p v c := by
        rintro rfl
        rw [hix] at t1 t2 t3
        exact hne ⟨t1, t2, t3⟩
      rw [setS_ne this]; exact hix
    · rintro ⟨hu', i, hi', hix⟩
      have hne : i ≠ findN s p v c := by
        rintro rfl
        rw [setS_eq] at hix
        have := congrArg Slot.used hix; cases this
      rw [setS_ne hne] at hix
      refine ⟨⟨hu', i, hi', hix⟩, fun hk' => hne ?_⟩
      have hiu : (s i).used = true := by rw [hix]; rfl
      exact h.inv.apart i _ hi' hi hiu hu (by rw [hix, t1]; exact hk'.1) (by rw [hix, t2]; exact hk'.2.1) (by rw [hix, t3]; exact hk'.2.2)
  have hright : ∀ i, i < 128 → (s' i).used = true → rightB (s' i).p (s' i).v (s' i).c = true := by
    intro i hi' hiu
    have hx : (s' i).ent ∈ delE L p v c := (hmem _).2 (by rw [slot_ent hiu]; exact ⟨hiu, i, hi', rfl⟩)
    exact h.right (mem_delE.1 hx).1
  have hlen : (delE L p v c).length + 1 = L.length := by
    have hx := (lookE_some h.srt).1 hl
    have h1 := length_le_of_nodup (l := (⟨p, v, c, n⟩ : Ent) :: delE L p v c) (m := L) (List.nodup_cons.2 ⟨fun hx => (mem_delE.1 hx).2 ⟨rfl, rfl, rfl⟩, (delE_srt h.srt p v c).nodup⟩) fun y hy => by
      rcases List.mem_cons.1 hy with rfl | hy
      · exact hx
      · exact (mem_delE.1 hy).1
    have h2 := length_le_of_nodup (l := L) (m := (⟨p, v, c, n⟩ : Ent) :: delE L p v c) h.srt.nodup fun y hy => by
      by_cases hk' : y.p = p ∧ y.v = v ∧ y.c = c
      · rw [h.srt.inj hy hx hk']; simp
      · exact List.mem_cons_of_mem _ (mem_delE.2 ⟨hy, hk'⟩)
    simp only [List.length_cons] at h1 h2
    omega
  have hc : cntU s' = (delE L p v c).length := by
    have hn : ((usedL s').map fun i => (s' i).ent).Nodup := by
      rw [List.nodup_iff_pairwise_ne, List.pairwise_map]
      refine List.Pairwise.imp_of_mem ?_ (List.nodup_iff_pairwise_ne.1 (usedL_nodup s'))
      intro i j hi hj hne heq
      obtain ⟨i1, i2⟩ := mem_usedL.1 hi
      obtain ⟨j1, j2⟩ := mem_usedL.1 hj
      exact hne (hd.apart i j i1 j1 i2 j2 (congrArg Ent.p heq) (congrArg Ent.v heq) (congrArg Ent.c heq))
    have h1 := length_le_of_nodup hn (m := delE L p v c) fun x hx => by
      obtain ⟨i, hi, rfl⟩ := List.mem_map.1 hx
      obtain ⟨i1, i2⟩ := mem_usedL.1 hi
      refine (hmem _).2 ?_
      rw [slot_ent i2]
      exact ⟨i2, i, i1, rfl⟩
    have h2 := length_le_of_nodup (delE_srt h.srt p v c).nodup (m := (usedL s').map fun i => (s' i).ent) fun x hx => by
      obtain ⟨hu, i, hi, hix⟩ := (hmem x).1 hx
      exact List.mem_map.2 ⟨i, mem_usedL.2 ⟨hi, by rw [hix]; rfl⟩, by rw [hix]; rfl⟩
    rw [List.length_map] at h1 h2
    unfold cntU; omega
  have hlL := h.len
  have hf := h.inv.fits
  exact ⟨⟨own, hd.zero, hright, by rw [hc]; omega, by omega, h.inv.cap⟩, delE_srt h.srt p v c, hmem⟩
/-- The loop's start. -/
theorem TabI.dropI {s : Nat → Slot} {len room : Int} {L : List Ent} (h : TabI s len room L) {e i : Nat} (he : e < 128) (hu : (s e).used = false) (hi : i < 128) (hiu : (s i).used = true) :
    DropI (setS s i noSlot) e (offE e i + 1) ∧ offE e i < 128 ∧ (i + 1) % 128 = atE e (offE e i + 1) := by
  have hl := h.inv.lin he hu
  have hk := offE_lt e i
  have ei := atE_off he hi
  have hl2 : LinI s e (fun j x => offE e i ≤ j ∧ x < offE e i) := ⟨hl.free, fun k hk hku => ⟨(hl.way k hk hku).1, fun x h1 h2 => .inl (((hl.way k hk hku).2 x h1 h2).resolve_right id)⟩, hl.pos⟩
  have h3 := hl2.clear he hk
  rw [ei] at h3
  exact ⟨⟨h3, h.inv.apart.clear i, zero_clear h.inv.zero i⟩, hk, by rw [← atE_succ he, ei]⟩
end Go.Proofs.YthchmlidobgkoaaGreat
end

section
/- Package conns: the table's functions, said of a list of entries. -/
set_option linter.unusedVariables false
set_option linter.unusedSimpArgs false
namespace Go.Proofs.YthchmlidobgkoaaGreat
open Go.Vc Go.RowKit
theorem get_tabL {b : Nat} {s : Nat → Slot} {len room : Int} {L : List Ent} (p v c : Int) {w : World} (ht : Own w b (encT s len room) 82) (hT : TabI s len room L) :
    CV Tryz.prog 25 #[.pointer (some ⟨b, 0, none⟩), .agg #[.int .i64 p, .int .i64 v, .int .i64 c]] w fun x w1 => x = .tuple #[.int .i64 ((lookE L p v c).getD 0), .bool (lookE L p v c).isSome] ∧ Step No w w1 := by
  have := get_tab p v c ht hT.inv
  rwa [hT.val] at this
theorem find_at {b : Nat} {s : Nat → Slot} {len room : Int} (p v c : Int) {w : World} (ht : Own w b (encT s len room) 82) {e : Nat} (he : e < 128) (hu : (s e).used = false) :
    CV Tryz.prog 53 #[.pointer (some ⟨b, 0, none⟩), .agg #[.int .i64 p, .int .i64 v, .int .i64 c]] w fun x w1 => x = .int .i64 ((findN s p v c : Nat) : Int) ∧ Step No w w1 := find_any b s len room p v c w ht e he hu
theorem atE_128 {e : Nat} (he : e < 128) : atE e 128 = e := by unfold atE; omega
theorem DropI.lt {s : Nat → Slot} {e k : Nat} (h : DropI s e k) (he : e < 128) (hk : k ≤ 128) (hu : (s (atE e k)).used = true) : k < 128 := by
  rcases Nat.lt_or_eq_of_le hk with h1 | rfl
  · exact h1
  · rw [atE_128 he, h.lin.free] at hu; cases hu
theorem delE_none {L : List Ent} {p v c : Int} (h : (lookE L p v c).isSome = false) : delE L p v c = L := by
  have h2 : lookE L p v c = none := by simpa using h
  unfold delE
  refine List.filter_eq_self.2 fun x hx => ?_
  have := lookE_none.1 h2 x hx
  unfold keyIs
  rw [decide_eq_false this]; rfl
end Go.Proofs.YthchmlidobgkoaaGreat
end

section
/- The kit's contract for slices.SortFunc, laid at this program's slots (printed by the kit's own tool). -/
namespace Go.Proofs
open Go.Shelf
def Tryz.sortSlot_ren : Go.Shelf.Ren := ⟨fun | 6 => 82 | 15 => 86 | 14 => 85 | 28 => 97 | 29 => 98 | 20 => 89 | 21 => 90 | 22 => 91 | 23 => 92 | 24 => 93 | 25 => 94 | 26 => 95 | 27 => 96 | 46 => 100 | 47 => 101 | 48 => 102 | 49 => 103 | 50 => 104 | 57 => 105 | n => n, fun | 22 => 137 | 24 => 79 | 25 => 140 | 3 => 3 | 39 => 132 | 0 => 0 | 53 => 131 | 55 => 153 | 4 => 4 | 46 => 146 | 45 => 145 | 50 => 37 | 5 => 5 | 9 => 9 | 66 => 154 | 70 => 158 | 76 => 160 | 77 => 161 | n => n, fun | n => n⟩
theorem Tryz.sortSlot : Go.Proofs.SlLaysF0.n6 Tryz.prog Tryz.sortSlot_ren := {
  mixed := by kernel_rfl
  f6 := ⟨Tryz.f82.name, by decide, Tryz.func82.trans (congrArg some (by kernel_rfl))⟩
  f14 := ⟨Tryz.f85.name, by decide, Tryz.func85.trans (congrArg some (by kernel_rfl))⟩
  f15 := Tryz.func86.trans (congrArg some (by kernel_rfl))
  f20 := ⟨Tryz.f89.name, by decide, Tryz.func89.trans (congrArg some (by kernel_rfl))⟩
  f21 := ⟨Tryz.f90.name, by decide, Tryz.func90.trans (congrArg some (by kernel_rfl))⟩
  f22 := ⟨Tryz.f91.name, by decide, Tryz.func91.trans (congrArg some (by kernel_rfl))⟩
  f23 := ⟨Tryz.f92.name, by decide, Tryz.func92.trans (congrArg some (by kernel_rfl))⟩
  f24 := ⟨Tryz.f93.name, by decide, Tryz.func93.trans (congrArg some (by kernel_rfl))⟩
  f25 := ⟨Tryz.f94.name, by decide, Tryz.func94.trans (congrArg some (by kernel_rfl))⟩
  f26 := ⟨Tryz.f95.name, by decide, Tryz.func95.trans (congrArg some (by kernel_rfl))⟩
  f27 := ⟨Tryz.f96.name, by decide, Tryz.func96.trans (congrArg some (by kernel_rfl))⟩
  f28 := Tryz.func97.trans (congrArg some (by kernel_rfl))
  f29 := Tryz.func98.trans (congrArg some (by kernel_rfl))
  f46 := ⟨Tryz.f100.name, by decide, Tryz.func100.trans (congrArg some (by kernel_rfl))⟩
  f47 := Tryz.func101.trans (congrArg some (by kernel_rfl))
  f48 := Tryz.func102.trans (congrArg some (by kernel_rfl))
  f49 := ⟨Tryz.f103.name, by decide, Tryz.func103.trans (congrArg some (by kernel_rfl))⟩
  f50 := ⟨Tryz.f104.name, by decide, Tryz.func104.trans (congrArg some (by kernel_rfl))⟩
  f57 := ⟨Tryz.f105.name, by decide, Tryz.func105.trans (congrArg some (by kernel_rfl))⟩
  t0 := Tryz.underlying0
  a0 := Tryz.isAgg0
  z0 := Tryz.sizeOf0
  v0 := Tryz.zeroValue0
  t3 := Tryz.underlying3
  a3 := Tryz.isAgg3
  z3 := Tryz.sizeOf3
  v3 := Tryz.zeroValue3
  t4 := Tryz.underlying4
  a4 := Tryz.isAgg4
  z4 := Tryz.sizeOf4
  v4 := Tryz.zeroValue4
  t5 := Tryz.underlying5
  a5 := Tryz.isAgg5
  z5 := Tryz.sizeOf5
  v5 := Tryz.zeroValue5
  t9 := Tryz.underlying9
  a9 := Tryz.isAgg9
  z9 := Tryz.sizeOf9
  v9 := Tryz.zeroValue9
  t22 := Tryz.underlying137
  a22 := Tryz.isAgg137
  z22 := Tryz.sizeOf137
  v22 := Tryz.zeroValue137
  t25 := Tryz.underlying140
  a25 := Tryz.isAgg140
  z25 := Tryz.sizeOf140
  v25 := Tryz.zeroValue140
  t39 := Tryz.underlying132
  a39 := Tryz.isAgg132
  z39 := Tryz.sizeOf132
  v39 := Tryz.zeroValue132
  t45 := Tryz.underlying145
  a45 := Tryz.isAgg145
  z45 := Tryz.sizeOf145
  v45 := Tryz.zeroValue145
  t46 := Tryz.underlying146
  a46 := Tryz.isAgg146
  z46 := Tryz.sizeOf146
  v46 := Tryz.zeroValue146
  t50 := Tryz.underlying37
  a50 := Tryz.isAgg37
  z50 := Tryz.sizeOf37
  v50 := Tryz.zeroValue37
  t53 := Tryz.underlying131
  a53 := Tryz.isAgg131
  z53 := Tryz.sizeOf131
  v53 := Tryz.zeroValue131
  t55 := Tryz.underlying153
  a55 := Tryz.isAgg153
  z55 := Tryz.sizeOf153
  v55 := Tryz.zeroValue153
  t66 := Tryz.underlying154
  a66 := Tryz.isAgg154
  z66 := Tryz.sizeOf154
  v66 := Tryz.zeroValue154
  t70 := Tryz.underlying158
  a70 := Tryz.isAgg158
  z70 := Tryz.sizeOf158
  v70 := Tryz.zeroValue158
  t76 := Tryz.underlying160
  a76 := Tryz.isAgg160
  z76 := Tryz.sizeOf160
  v76 := Tryz.zeroValue160
  t77 := Tryz.underlying161
  a77 := Tryz.isAgg161
  z77 := Tryz.sizeOf161
  v77 := Tryz.zeroValue161 }
end Go.Proofs
end

section
/- The calculus' twenty-first part: drawn regions whose values are settled, and what is drawn only grows: for calls into the kit's sort. -/
set_option linter.unusedVariables false
set_option linter.unusedSimpArgs false
namespace Go.Vc
open Go.RowKit
/-- Old blocks are as they were, and no fewer were drawn. -/
def GR (w w' : World) : Prop := Step No w w' ∧ w.drawn ≤ w'.drawn
theorem GR.refl (w : World) : GR w w := ⟨Step.refl _ _, Nat.le_refl _⟩
theorem GR.trans {w w' w'' : World} (h : GR w w') (k : GR w' w'') : GR w w'' := ⟨h.1.trans k.1, Nat.le_trans h.2 k.2⟩
theorem GR.drew (w : World) : GR w w.drew := ⟨drew_step w, Nat.le_succ _⟩
theorem New.drawn {w w' : World} {b : Nat} {o : Obj} (h : New w w' b o) : w'.drawn = w.drawn := by
  obtain ⟨_, rfl⟩ := h
  rfl
section
variable {r : Option Nat} {n : Nat} {ds : List Deferred} {P : Program} {ops : Array Oper} {Q : Exit → Act → World → Prop} {l : List (Nat × Value)} {w : World}
def DetD (r : Option Nat) (n : Nat) (ds : List Deferred) (P : Program) (ops : Array Oper) (Q : Exit → Act → World → Prop) (w : World) (l : List (Nat × Value)) (k : Nat) (v : Value) : Prop :=
  V1 r n ds P ops Q k l w fun l' w'' => ∃ d, dstOf ops k = some d ∧ look l' d = some v ∧ GR w w''

theorem VC_detD {id : Nat} (tbl : List (List Nat)) (m : Nat) (vs : List Value) (ks js : List Nat) (hm : P.follows .mixedOrders = true) (hchk : drawChk n ops tbl m = true) (hcov : allB m (fun k => nmem k ks || nmem k js) = true)
    (hpure : (ks.map fun k => pureAt P n ops (lkv ops tbl m l vs k) k) = ks.map fun k => some (vs.getD k undef))
    (hj : ∀ w1, GR w w1 → AncAll (fun k => DetD r n ds P ops Q w1 (lkv ops tbl m l vs k) k (vs.getD k undef)) js)
    (tail : ∀ w1, GR w w1 → VL r n ds P ops Q m (lmv ops m l vs) w1) : VC r n ds P Q (.region id ops true) l w := by
  have hc := drawChk_spec hchk
  have inSlots : ∀ k j d, j ∈ k :: tb tbl k → dstOf ops j = some d → ∀ ρ, rs ops tbl k ρ d = ρ d := by
    intro k j d hj hd ρ
    unfold rs slotsOf
    rw [show nmem d (List.filterMap (dstOf ops) (k :: tb tbl k)) = true from nmem_iff.2 (List.mem_filterMap.2 ⟨j, hj, hd⟩)]
    rfl
  refine VC_any tbl m hm hchk GR GR.refl (fun h k => GR.trans h k) (fun j ρ _ => ∀ d, dstOf ops j = some d → ρ d = vs.getD j undef) (fun j ρ x y h _ => h) (HAll_of fun k hk => ?_) ?_
  · intro ρ w' hs hanc
    have hw' : GR w w' := (GR.drew w).trans hs
    obtain ⟨d, hd, hdn, hclob⟩ := hc.dst k hk
    have hkn : k < ops.size := by have := hc.le; omega
    have hanc' := AncAll_spec hanc
    have hl : lk ops tbl m l k ρ = lkv ops tbl m l vs k := by
      unfold lk lkv
      congr 1
      rw [List.map_filterMap]
      apply filterMap_congr'
      intro j hj
      cases hdj : dstOf ops j with
      | none => rfl
      | some dj =>
        simp only [Option.map_some, Option.some.injEq, Prod.mk.injEq, true_and]
        have := hanc' j hj dj hdj
        rw [← this, inSlots j j dj (List.mem_cons_self ..) hdj]
    rw [hl]
    have hcv := allB_spec hcov k hk
    simp only [Bool.or_eq_true] at hcv
    have fin : ∀ l' w'', (∃ d, dstOf ops k = some d ∧ look l' d = some (vs.getD k undef) ∧ GR w' w'') → ∃ v d, dstOf ops k = some d ∧ look l' d = some v ∧ GR w' w'' ∧ ∀ d', dstOf ops k = some d' → rs ops tbl k (upd ρ d v) d' = vs.getD k undef := by
      rintro l' w'' ⟨d0, h1, h2, h3⟩
      refine ⟨_, d0, h1, h2, h3, fun d' hd' => ?_⟩
      rw [h1] at hd'
      simp only [Option.some.injEq] at hd'
      subst hd'
      rw [inSlots k k d0 (List.mem_cons_self ..) h1]
      simp [upd]
    rcases hcv with hk1 | hk2
    · have hp := map_eq_at hpure k (nmem_iff.1 hk1)
      obtain ⟨o, ho, hod⟩ : ∃ o, ops[k]? = some o ∧ o.dst = some d := Option.bind_eq_some_iff.1 hd
      unfold pureAt at hp
      rw [ho] at hp
      simp only [hod] at hp
      rw [show Nat.blt d n = true from Nat.ble_eq_true_of_le hdn] at hp
      simp only [cond_true] at hp
      exact V1_pure ho hp hod hdn (fin _ _ ⟨d, hd, look_head, GR.refl _⟩)
    · have h1 := AncAll_spec (hj w' hw') k (nmem_iff.1 hk2)
      intro a ha
      refine wpOpIn_mono ?_ (h1 a ha)
      rintro a' w'' ⟨l', hl', h2⟩
      exact ⟨l', hl', fin l' w'' h2⟩
  · intro ρ w' hs hall
    have hl : lm ops m l ρ = lmv ops m l vs := by
      unfold lm lmv
      congr 1
      rw [List.map_filterMap]
      apply filterMap_congr'
      intro j hj
      cases hdj : dstOf ops j with
      | none => rfl
      | some dj =>
        simp only [Option.map_some, Option.some.injEq, Prod.mk.injEq, true_and]
        have := HAll_spec hall j (List.mem_range.1 hj) dj hdj
        rw [← this, inSlots j j dj (List.mem_cons_self ..) hdj]
    rw [hl]
    exact tail w' ((GR.drew w).trans hs)

theorem DetD_load {d k : Nat} {t : TypeId} {a : Addr} {v : Value} (h : loadOp n ops l k = some (d, t, a)) (hd : dstOf ops k = some d) (hv : Loads P t w a v) : DetD r n ds P ops Q w l k v :=
  V1_load h hv ⟨d, hd, look_head, GR.refl _⟩
theorem DetD_call {d k f : Nat} {args : Array Value} {v : Value} (h : callOp ops l k = some (d, f, args)) (hd : dstOf ops k = some d) (hdn : Nat.blt d n = true) (hc : ∀ (args : Array Value) (w : World), (callFunc f args).run P w = .ok (.enter f args) w) (hcall : CV P f args w fun x w' => x = v ∧ GR w w') : DetD r n ds P ops Q w l k v := by
  refine V1_call h hdn hc hcall ?_
  rintro x w' ⟨rfl, hs⟩
  exact ⟨d, hd, look_head, hs⟩

end
end Go.Vc
end

section
/- How keys lie to each other; the sort. -/
set_option linter.unusedVariables false
set_option linter.unusedSimpArgs false
set_option maxRecDepth 100000
set_option maxHeartbeats 4000000
namespace Go.Proofs.YthchmlidobgkoaaGreat
open Go.Vc Go.RowKit

def cmpI (x y : Int) : Int := if x < y then -1 else if x > y then 1 else 0
def cmpK (p v c p' v' c' : Int) : Int := if cmpI p p' ≠ 0 then cmpI p p' else if cmpI v v' ≠ 0 then cmpI v v' else cmpI c c'
theorem cmpK_lt (p v c p' v' c' : Int) : decide (cmpK p v c p' v' c' < 0) = befK p v c p' v' c' := by
  rw [Bool.eq_iff_iff, decide_eq_true_eq, befK_iff]
  unfold cmpK cmpI
  repeat' split
  all_goals omega
theorem orI_0 {x y z : Int} (h : x ≠ 0) : x = (if x ≠ 0 then x else if y ≠ 0 then y else z) := by rw [if_pos h]
theorem orI_1 {x y z : Int} (h0 : ¬ x ≠ 0) (h : y ≠ 0) : y = (if x ≠ 0 then x else if y ≠ 0 then y else z) := by rw [if_neg h0, if_pos h]
theorem orI_2 {x y z : Int} (h0 : ¬ x ≠ 0) (h1 : ¬ y ≠ 0) : z = (if x ≠ 0 then x else if y ≠ 0 then y else z) := by rw [if_neg h0, if_neg h1]
theorem orI_3 {x y z : Int} (h0 : ¬ x ≠ 0) (h1 : ¬ y ≠ 0) (h2 : ¬ z ≠ 0) : 0 = (if x ≠ 0 then x else if y ≠ 0 then y else z) := by rw [if_neg h0, if_neg h1]; omega
theorem nan_any (x : Int) (w : World) :
  CV Tryz.prog 99 #[I6 x] w (fun v w1 => v = Bo false ∧ Step No w w1 ∧ w.drawn ≤ w1.drawn) := by
 have hS : Step No w w := Step.refl _ _
 refine VCe Tryz.func99 (Vrp (Vrp (VC_ret (Vr1 (Bo (x != x)) ?_))))
 exact ⟨by simp, hS, Nat.le_refl _⟩

theorem cmp_any (x y : Int) (w : World) :
  CV Tryz.prog 88 #[I6 x, I6 y] w (fun v w1 => v = I6 (cmpI x y) ∧ Step No w w1 ∧ w.drawn ≤ w1.drawn) := by
 have hS : Step No w w := Step.refl _ _
 refine VCe Tryz.func88 (Vrp (Vs (Vr (Vp 1 ?_))))
 refine Vc 1 Tryz.call99 (nan_any x _) ?_
 rintro _ w1 ⟨rfl, hc1, hdrhc1⟩
 replace hS := Step.trans hS hc1
 refine Ve (Vn (Vs (Vr (Vp 1 ?_))))
 refine Vc 1 Tryz.call99 (nan_any y _) ?_
 rintro _ w2 ⟨rfl, hc2, hdrhc2⟩
 replace hS := Step.trans hS hc2
 refine Ve (Vn (Vs (Vrp (Vf (VC_skip (Vn (Vs (Vrp (Vf (VC_skip (Vn (Vs (Vrp (Vid (x < y) (fun h1 => ?_) (fun h1 => ?_)))))))))))))))
 ·refine Vrp (VC_ret (VQ_then_ret (Vr1 (I6 (-1)) ?_)))
  exact ⟨by unfold cmpI; first | rw [if_pos (by assumption)] | rw [if_neg (by assumption), if_pos (by assumption)] | rw [if_neg (by assumption), if_neg (by assumption)], hS, by omega⟩
 ·refine VC_skip (Vn (Vs (Vrp (Vid (x > y) (fun h2 => ?_) (fun h2 => ?_)))))
  ·refine Vrp (VC_ret (VQ_then_ret (Vr1 (I6 1) ?_)))
   exact ⟨by unfold cmpI; first | rw [if_pos (by assumption)] | rw [if_neg (by assumption), if_pos (by assumption)] | rw [if_neg (by assumption), if_neg (by assumption)], hS, by omega⟩
  ·refine VC_skip (Vn (Vrp (VC_ret (Vr1 (I6 0) ?_))))
   exact ⟨by unfold cmpI; first | rw [if_pos (by assumption)] | rw [if_neg (by assumption), if_pos (by assumption)] | rw [if_neg (by assumption), if_neg (by assumption)], hS, by omega⟩

theorem or_any (a x y z : Int) (b : Nat) (w : World) (ho : Own w b #[I6 x, I6 y, I6 z] a.toNat) :
  CV Tryz.prog 87 #[.slice (some ⟨b, 0, none⟩) 3 3] w (fun v w1 => v = I6 (if x ≠ 0 then x else if y ≠ 0 then y else z) ∧ Step No w w1 ∧ w.drawn ≤ w1.drawn) := by
 have hS : Step No w w := Step.refl _ _
 refine VCe Tryz.func87 (Vrp (Vrp (Vs (Vrp (VC_block (VC_rounds (VCL_round (Vrp (Vs (Vt (VC_skip (Vn ?_))))))))))))
 refine Vs (VC_block (Vs (Vr (VL_index (d := 10) (b := b) (o := 0) (len := 3) (sz := 1) (m := 0) (by kernel_rfl) (by kernel_rfl) 0 (by rfl) (by omega) 0 (by omega) (Vl 1 ho (Ve (Vn (Vrp (Viu x 0 (fun h1 => ?_) (fun h1 => ?_))))))))))
 ·refine Vrp (VC_ret (VQ_block_ret (VQ_then_ret (VQ_then_ret (VQ_block_ret (VQ_then_ret (Vr1 (I6 x) ?_)))))))
  exact ⟨congrArg (Value.int .i64) (orI_0 (by omega)), hS, by omega⟩
 ·refine VC_skip (VQ_block_normal (Vn (Vr (Ve (VQ_round (VCL_round (Vrp (Vs (Vt (VC_skip (Vn (Vs (VC_block (Vs (Vr (VL_index (d := 10) (b := b) (o := 0) (len := 3) (sz := 1) (m := 1) (by kernel_rfl) (by kernel_rfl) 1 (by rfl) (by omega) 1 (by omega) (Vl 1 ho (Ve (Vn (Vs (Vr ?_)))))))))))))))))))))
  refine Ve (Vn (Viu y 0 (fun h2 => ?_) (fun h2 => ?_)))
  ·refine Vrp (VC_ret (VQ_block_ret (VQ_then_ret (VQ_then_ret (VQ_block_ret (VQ_then_ret (Vr1 (I6 y) ?_)))))))
   exact ⟨congrArg (Value.int .i64) (orI_1 (by omega) (by omega)), hS, by omega⟩
  ·refine VC_skip (VQ_block_normal (Vn (Vr (Ve (VQ_round (VCL_round (Vrp (Vs (Vt (VC_skip (Vn (Vs (VC_block (Vs (Vr (VL_index (d := 10) (b := b) (o := 0) (len := 3) (sz := 1) (m := 2) (by kernel_rfl) (by kernel_rfl) 2 (by rfl) (by omega) 2 (by omega) (Vl 1 ho (Ve (Vn (Vs (Vr ?_)))))))))))))))))))))
   refine Ve (Vn (Viu z 0 (fun h3 => ?_) (fun h3 => ?_)))
   ·refine Vrp (VC_ret (VQ_block_ret (VQ_then_ret (VQ_then_ret (VQ_block_ret (VQ_then_ret (Vr1 (I6 z) ?_)))))))
    exact ⟨congrArg (Value.int .i64) (orI_2 (by omega) (by omega)), hS, by omega⟩
   ·refine VC_skip (VQ_block_normal (Vn (Vr (Ve (VQ_round (VCL_round (Vrp (Vs (Vf (VC_exit (VQ_then_exit (VQ_then_exit (VQ_block_hit (Vn (Vrp (VC_ret (Vr1 (I6 0) ?_)))))))))))))))))
    exact ⟨congrArg (Value.int .i64) ((orI_3 (by omega) (by omega) (by omega))), hS, by omega⟩

theorem compare_any (p v c p' v' c' : Int) (w : World) :
  CV Tryz.prog 84 #[.agg #[.int .i64 p, .int .i64 v, .int .i64 c], .agg #[.int .i64 p', .int .i64 v', .int .i64 c']] w (fun x w1 => x = .int .i64 (cmpK p v c p' v' c') ∧ Step No w w1 ∧ w.drawn ≤ w1.drawn) := by
 have hS : Step No w w := Step.refl _ _
 refine CV_enter Tryz.f84 _ 22 [(0, .agg #[.int .i64 p, .int .i64 v, .int .i64 c]), (1, .agg #[.int .i64 p', .int .i64 v', .int .i64 c'])] Tryz.func84 rfl rfl (by kernel_rfl) rfl ?_
 refine VC_seq ?_
 refine VC_region ?_
 refine VL_box (d := 2) (t := 30) (c := #[.int .i64 p, .int .i64 v, .int .i64 c]) (by kernel_rfl) (by kernel_rfl) ?_
 intro b1 w1 hn1
 replace hS := Step.trans hS (hn1.step No)
 have ho1 := hn1.own
 have hrhn1 := hn1.drawn
 refine VL_box (d := 3) (t := 30) (c := #[.int .i64 p', .int .i64 v', .int .i64 c']) (by kernel_rfl) (by kernel_rfl) ?_
 intro b2 w2 hn2
 replace hS := Step.trans hS (hn2.step No)
 replace ho1 := ho1.no (hn2.step No)
 have ho2 := hn2.own
 have hrhn2 := hn2.drawn
 refine VL_pure 3 [2, 3] [(2, .pointer (some ⟨b1, 0, none⟩)), (3, .pointer (some ⟨b2, 0, none⟩))] (by kernel_rfl) rfl ?_
 refine VL_end (by kernel_rfl) ?_
 refine VQ_next ?_
 refine VC_seq ?_
 refine VC_detD [[], [0], [], [2], [0, 1, 2, 3], [], [5], [], [7], [0, 1, 2, 3, 4, 5, 6, 7, 8], [], [10], [], [12], [0, 1, 2, 3, 4, 5, 6, 7, 8, 9, 10, 11, 12, 13], [0, 1, 2, 3, 4, 5, 6, 7, 8, 9, 10, 11, 12, 13, 14], [0, 1, 2, 3, 4, 5, 6, 7, 8, 9, 10, 11, 12, 13, 14, 15], [0, 1, 2, 3, 4, 5, 6, 7, 8, 9, 10, 11, 12, 13, 14, 15, 16]] 14 [.pointer (some ⟨b1, 0, none⟩), .int .i64 p, .pointer (some ⟨b2, 0, none⟩), .int .i64 p', .int .i64 (cmpI p p'), .pointer (some ⟨b1, 1, none⟩), .int .i64 v, .pointer (some ⟨b2, 1, none⟩), .int .i64 v', .int .i64 (cmpI v v'), .pointer (some ⟨b1, 2, none⟩), .int .i64 c, .pointer (some ⟨b2, 2, none⟩), .int .i64 c'] [0, 2, 5, 7, 10, 12] [1, 3, 4, 6, 8, 9, 11, 13] (by kernel_rfl) (by kernel_rfl) (by kernel_rfl) (by kernel_rfl) ?_ ?_
 ·intro w3 hs1
  replace hs1 := hs1.1
  replace ho1 := ho1.no hs1
  replace ho2 := ho2.no hs1
  exact ⟨DetD_load (d := 6) (t := 3) (a := ⟨b1, 0, none⟩) (by kernel_rfl) (by kernel_rfl) (Loads.own1 ho1 (by kernel_rfl) (by rfl)), DetD_load (d := 8) (t := 3) (a := ⟨b2, 0, none⟩) (by kernel_rfl) (by kernel_rfl) (Loads.own1 ho2 (by kernel_rfl) (by rfl)), DetD_call (d := 9) (f := 88) (args := #[.int .i64 p, .int .i64 p']) (by kernel_rfl) (by kernel_rfl) (by kernel_rfl) Tryz.call88 (by exact cmp_any p p' _), DetD_load (d := 11) (t := 3) (a := ⟨b1, 1, none⟩) (by kernel_rfl) (by kernel_rfl) (Loads.own1 ho1 (by kernel_rfl) (by rfl)), DetD_load (d := 13) (t := 3) (a := ⟨b2, 1, none⟩) (by kernel_rfl) (by kernel_rfl) (Loads.own1 ho2 (by kernel_rfl) (by rfl)), DetD_call (d := 14) (f := 88) (args := #[.int .i64 v, .int .i64 v']) (by kernel_rfl) (by kernel_rfl) (by kernel_rfl) Tryz.call88 (by exact cmp_any v v' _), DetD_load (d := 16) (t := 3) (a := ⟨b1, 2, none⟩) (by kernel_rfl) (by kernel_rfl) (Loads.own1 ho1 (by kernel_rfl) (by rfl)), DetD_load (d := 18) (t := 3) (a := ⟨b2, 2, none⟩) (by kernel_rfl) (by kernel_rfl) (Loads.own1 ho2 (by kernel_rfl) (by rfl)), trivial⟩
 intro w3 hs1
 have hs1d := hs1.2
 replace hs1 := hs1.1
 replace hS := Step.trans hS hs1
 refine VL_keep [9, 14, 16, 18] [(9, .int .i64 (cmpI p p')), (14, .int .i64 (cmpI v v')), (16, .int .i64 c), (18, .int .i64 c')] (by kernel_rfl) ?_
 refine VL_call (d := 19) (f := 88) (args := #[.int .i64 c, .int .i64 c']) (by kernel_rfl) (by kernel_rfl) (by kernel_rfl) Tryz.call88 (cmp_any c c' _) ?_
 rintro _ w4 ⟨rfl, hc1, hdrhc1⟩
 replace hS := Step.trans hS hc1
 refine VL_bs (d := 20) (e := 3) (c := #[.int .i64 (cmpI p p'), .int .i64 (cmpI v v'), .int .i64 (cmpI c c')]) (len := 3) (by kernel_rfl) (by kernel_rfl) ?_
 intro b3 w5 hn3
 replace hS := Step.trans hS (hn3.step No)
 have ho3 := hn3.own
 have hrhn3 := hn3.drawn
 refine VL_call (d := 21) (f := 87) (args := #[.slice (some ⟨b3, 0, none⟩) 3 3]) (by kernel_rfl) (by kernel_rfl) (by kernel_rfl) Tryz.call87 (or_any 3 (cmpI p p') (cmpI v v') (cmpI c c') b3 _ ho3) ?_
 rintro _ w6 ⟨rfl, hc2, hdrhc2⟩
 replace hS := Step.trans hS hc2
 refine VL_pure 18 [4] [(4, .int .i64 (cmpK p v c p' v' c'))] (by kernel_rfl) rfl ?_
 refine VL_end (by kernel_rfl) ?_
 refine VQ_next ?_
 refine VC_ret ?_
 refine VQ_ret1 (.int .i64 (cmpK p v c p' v' c')) (.inr rfl) rfl rfl ?_
 exact ⟨rfl, hS, by omega⟩

theorem less_any (x y : Slot) (w : World) :
  CV Tryz.prog 83 #[.agg #[I6 x.p, I6 x.v, I6 x.c, I6 x.n, Bo x.used], .agg #[I6 y.p, I6 y.v, I6 y.c, I6 y.n, Bo y.used]] w (fun v w1 => v = I6 (cmpK x.p x.v x.c y.p y.v y.c) ∧ Step No w w1 ∧ w.drawn ≤ w1.drawn) := by
 have hS : Step No w w := Step.refl _ _
 refine VCe Tryz.func83 (Vs (Vr ?_))
 refine Vx 0 79 #[I6 x.p, I6 x.v, I6 x.c, I6 x.n, Bo x.used] ?_
 intro b1 w1 hn1
 replace hS := Step.trans hS (hn1.step No)
 have ho1 := hn1.own
 have hrhn1 := hn1.drawn
 refine Vx 1 79 #[I6 y.p, I6 y.v, I6 y.c, I6 y.n, Bo y.used] ?_
 intro b2 w2 hn2
 replace hS := Step.trans hS (hn2.step No)
 replace ho1 := ho1.no (hn2.step No)
 have ho2 := hn2.own
 have hrhn2 := hn2.drawn
 refine Ve (Vn (Vs (Vr (Vl 1 ho1 (Vl 3 ho2 ?_)))))
 refine Vc 4 Tryz.call84 (compare_any x.p x.v x.c y.p y.v y.c _) ?_
 rintro _ w3 ⟨rfl, hc1, hdrhc1⟩
 replace hS := Step.trans hS hc1
 refine Ve (Vn (VC_ret (Vr1 (I6 (cmpK x.p x.v x.c y.p y.v y.c)) ?_)))
 exact ⟨rfl, hS, by omega⟩

end Go.Proofs.YthchmlidobgkoaaGreat
end

section
/- The calculus' tenth part: append. -/
set_option linter.unusedVariables false
set_option linter.unusedSimpArgs false
namespace Go.Vc
open Go.RowKit
section
variable {r : Option Nat} {n : Nat} {ds : List Deferred} {P : Program} {ops : Array Oper} {Q : Exit → Act → World → Prop} {l : List (Nat × Value)} {w : World} {i : Nat} {K : List (Nat × Value) → World → Prop}
/-- What append asks of an element's type: its cells, its bytes. -/
def appInfo (P : Program) (e : TypeId) : Option (Nat × Nat) := match P.info? e with
  | some inf => match inf.zero with
    | some z => bif Nat.beq z.cells.size inf.size && Nat.blt 0 inf.size then some (inf.size, inf.bytes) else none
    | none => none
  | none => none
theorem arr2 {α : Type} {a : Array α} {x y : α} (hs : a.size = 2) (h0 : a[0]? = some x) (h1 : a[1]? = some y) : a = #[x, y] := by
  apply Array.ext_getElem?
  intro j
  match j with
  | 0 => simpa using h0
  | 1 => simpa using h1
  | j + 2 => rw [Array.getElem?_eq_none (by omega), Array.getElem?_eq_none (by simp)]
end
end Go.Vc
end

section
/- The calculus' twelfth part: slices as lists: what lies there is told by a list; views, rows of one's own, arrays. -/
set_option linter.unusedVariables false
set_option linter.unusedSimpArgs false
namespace Go.Vc
open Go.RowKit

def iL (k : IntKind) (bs : List Int) : List Value := bs.map (Value.int k)
def iA (k : IntKind) (bs : List Int) : Array Value := (iL k bs).toArray
section
variable {k : IntKind} {bs bs' : List Int}
@[simp] theorem iL_length : (iL k bs).length = bs.length := by simp [iL]
@[simp] theorem iA_size : (iA k bs).size = bs.length := by simp [iA]
theorem iL_get (j : Nat) (h : j < bs.length) : (iL k bs)[j]? = some (.int k (bs.getD j 0)) := by
  simp [iL, List.getD, List.getElem?_eq_getElem h]
theorem iA_get (j : Nat) (h : j < bs.length) : (iA k bs)[j]? = some (.int k (bs.getD j 0)) := by
  rw [← iL_get j h]; simp [iA]
theorem iL_take (j : Nat) : iL k (bs.take j) = (iL k bs).take j := by simp [iL]
theorem iL_one : ∀ u ∈ iL k bs, oneC u = true := by
  intro u hu
  obtain ⟨x, _, rfl⟩ := List.mem_map.1 hu
  rfl
end

/-! ### 1. A view: what lies at a slice's address, all of it below B -/
def Sl (w : World) (B : Nat) (A : Option Addr) (xs : List Value) : Prop :=
  0 < xs.length → ∃ b o, A = some ⟨b, o, none⟩ ∧ b < B ∧ ∀ j u, xs[j]? = some u → w.cell? ⟨b, o + j, none⟩ = some u
section
variable {F : Nat → Prop} {w w' : World} {B B' : Nat} {A : Option Addr} {xs ys : List Value} {P : Program}
theorem Sl.nil : Sl w B A [] := fun h => by simp at h
theorem Sl.step (h : Sl w B A xs) (hs : Step F w w') (hF : ∀ k, k < B → ¬ F k) : Sl w' B A xs := by
  intro h0
  obtain ⟨b, o, hA, hb, hc⟩ := h h0
  exact ⟨b, o, hA, hb, fun j u hu => hs.cell (hF b hb) (hc j u hu)⟩
theorem Sl.no (h : Sl w B A xs) (hs : Step No w w') : Sl w' B A xs := h.step hs fun _ _ => id
theorem Sl.mono (h : Sl w B A xs) (hB : B ≤ B') : Sl w B' A xs := by
  intro h0
  obtain ⟨b, o, hA, hb, hc⟩ := h h0
  exact ⟨b, o, hA, by omega, hc⟩
theorem Sl.cast (h : Sl w B A xs) (e : xs = ys) : Sl w B A ys := e ▸ h
theorem Sl.open (h : Sl w B A xs) (h0 : 0 < xs.length) : ∃ b o, A = some ⟨b, o, none⟩ ∧ b < B := by
  obtain ⟨b, o, hA, hb, _⟩ := h h0
  exact ⟨b, o, hA, hb⟩
theorem Sl.get {b o : Nat} (h : Sl w B (some ⟨b, o, none⟩) xs) (j : Nat) (u : Value) (hu : xs[j]? = some u) : w.cell? ⟨b, o + j, none⟩ = some u := by
  obtain ⟨hlt, _⟩ := List.getElem?_eq_some_iff.1 hu
  obtain ⟨b', o', hA, _, hc⟩ := h (by omega)
  cases hA
  exact hc j u hu
theorem Sl.ld {b o : Nat} {t : TypeId} {u : Value} (h : Sl w B (some ⟨b, o, none⟩) xs) (ht : oneB P t = true) (j : Nat) (hu : xs[j]? = some u) : Loads P t w ⟨b, o + j, none⟩ u := Loads.one ht (h.get j u hu)
theorem Sl.ld0 {b : Nat} {t : TypeId} {u : Value} (h : Sl w B (some ⟨b, 0, none⟩) xs) (ht : oneB P t = true) (j : Nat) (hu : xs[j]? = some u) : Loads P t w ⟨b, j, none⟩ u := by
  have := h.ld ht j hu
  rwa [Nat.zero_add] at this
theorem Sl.sub {b o : Nat} (h : Sl w B (some ⟨b, o, none⟩) xs) (L M : Nat) : Sl w B (some ⟨b, o + L, none⟩) ((xs.drop L).take M) := by
  intro h0
  obtain ⟨b', o', hA, hb, hc⟩ := h (by simp at h0; omega)
  cases hA
  refine ⟨b, o + L, rfl, hb, fun j u hu => ?_⟩
  rw [List.getElem?_take] at hu
  split at hu
  · rw [List.getElem?_drop] at hu
    have := hc (L + j) u hu
    rwa [← Nat.add_assoc] at this
  · cases hu
theorem Own.sl {b : Nat} {c : Array Value} {e : TypeId} (h : Own w b c e) (hB : b < B) : Sl w B (some ⟨b, 0, none⟩) c.toList := by
  intro _
  refine ⟨b, 0, rfl, hB, fun j u hu => ?_⟩
  rw [Nat.zero_add, h.cell]
  simpa using hu
end

theorem Sl.keepB {F : Nat → Prop} {w w' : World} {B b o : Nat} {xs : List Value} (h : Sl w B (some ⟨b, o, none⟩) xs) (hs : Step F w w') (hF : ¬ F b) : Sl w' B (some ⟨b, o, none⟩) xs := by
  intro h0
  obtain ⟨b', o', hA, hb, hc⟩ := h h0
  cases hA
  exact ⟨b, o, rfl, hb, fun j u hu => hs.cell hF (hc j u hu)⟩
theorem Sl.cut {w : World} {B b o o' L H M : Nat} {xs : List Value} (h : Sl w B (some ⟨b, o, none⟩) xs) (ho : (if M = L then o else o + L * 1) = o') (hM : H ≤ M) : Sl w B (some ⟨b, o', none⟩) ((xs.drop L).take (H - L)) := by
  by_cases e : M = L
  · rw [show H - L = 0 by omega, List.take_zero]; exact Sl.nil
  · rw [if_neg e, Nat.mul_one] at ho
    rw [← ho]
    exact h.sub L (H - L)
theorem Sl.take {w : World} {B : Nat} {A : Option Addr} {xs : List Value} (h : Sl w B A xs) (m : Nat) : Sl w B A (xs.take m) := by
  intro h0
  obtain ⟨b, o, hA, hb, hc⟩ := h (by simp at h0; omega)
  exact ⟨b, o, hA, hb, fun j u hu => hc j u (by rw [List.getElem?_take] at hu; split at hu <;> simp_all)⟩
/-! ### 2. A row of one's own, of elements of one cell -/
def Rw (w : World) (base : Nat) (e : TypeId) (A : Option Addr) (n c : Nat) (xs : List Value) : Prop := w.ownsRow base e 1 (.slice A n c) n xs
section
variable {F : Nat → Prop} {w w' w0 : World} {B base base' n n' c c' : Nat} {e : TypeId} {A : Option Addr} {xs ys : List Value} {P : Program}
theorem Rw.len (h : Rw w base e A n c xs) : xs.length = n := by have := h.1; omega
theorem Rw.nil (w : World) (base : Nat) (e : TypeId) : Rw w base e none 0 0 [] := World.ownsRow_nil w base e 1
theorem Rw.cast (h : Rw w base e A n c xs) (hn : n = n') (hx : xs = ys) : Rw w base e A n' c ys := by subst hn; subst hx; exact h
theorem Rw.keep (h : Rw w base e A n c xs) (hs : Step F w w') (hF : ∀ k, base ≤ k → ¬ F k) : Rw w' base e A n c xs := by
  refine ⟨h.1, ?_⟩
  rcases h.2 with hn | ⟨g, cap, cur, hv, hb, hg, rest⟩
  · exact .inl hn
  · exact .inr ⟨g, cap, cur, hv, hb, (hs.block g (Array.getElem?_eq_some_iff.1 hg).1 (hF g hb)).trans hg, rest⟩
theorem Rw.step (h : Rw w base e A n c xs) (hs : Step F w w') (hF : ∀ k, base ≤ k → ¬ F k) : Rw w' base e A n c xs := h.keep hs hF
theorem Rw.no (h : Rw w base e A n c xs) (hs : Step No w w') : Rw w' base e A n c xs := h.keep hs fun _ _ => id
theorem Rw.low (h : Rw w base e A n c xs) (hb : base' ≤ base) : Rw w base' e A n c xs := by
  refine ⟨h.1, ?_⟩
  rcases h.2 with hn | ⟨g, cap, cur, hv, hb', rest⟩
  · exact .inl hn
  · exact .inr ⟨g, cap, cur, hv, by omega, rest⟩
theorem Rw.cap (h : Rw w base e A n c xs) : n ≤ c := by
  rcases h.2 with ⟨hv, hn⟩ | ⟨g, cap, cur, hv, hb', _, hc, _⟩
  · cases hv; omega
  · cases hv; exact hc
theorem Rw.sl (h : Rw w base e A n c xs) : Sl w w.heap.size A xs := by
  intro h0
  rcases h.2 with ⟨hv, hn⟩ | ⟨g, cap, cur, hv, hb', hg, _, _, _, ht⟩
  · have := h.1; omega
  · cases hv
    refine ⟨g, 0, rfl, (Array.getElem?_eq_some_iff.1 hg).1, fun j u hu => ?_⟩
    rw [Nat.zero_add, (show Own w g cur e from hg).cell, ← ht] at *
    rw [List.getElem?_take] at hu
    split at hu
    · simpa using hu
    · cases hu
/-- A row that isn't empty has a block. -/
theorem Rw.open (h : Rw w base e A n c xs) (h0 : 0 < n) : ∃ g cur, A = some ⟨g, 0, none⟩ ∧ base ≤ g ∧ g < w.heap.size ∧ Own w g cur e ∧ cur.size = c ∧ n ≤ c ∧ c ≤ maxLen ∧ cur.toList.take n = xs := by
  rcases h.2 with ⟨hv, hn⟩ | ⟨g, cap, cur, hv, hb', hg, hc, hm, hs, ht⟩
  · omega
  · cases hv
    exact ⟨g, cur, rfl, hb', (Array.getElem?_eq_some_iff.1 hg).1, hg, by simpa using hs, hc, hm, by simpa using ht⟩
theorem Rw.of_own {g : Nat} {cur : Array Value} (ho : Own w g cur e) (hb : base ≤ g) (hs : cur.size = c) (hn : n ≤ c) (hm : c ≤ maxLen) (ht : cur.toList.take n = xs) : Rw w base e (some ⟨g, 0, none⟩) n c xs := by
  refine ⟨?_, .inr ⟨g, c, cur, rfl, hb, ho, hn, hm, by simpa using hs, by simpa using ht⟩⟩
  rw [← ht]; simp; omega
theorem Rw.of_new {g : Nat} {cur : Array Value} (ho : Own w g cur e) (hb : base ≤ g) (hm : cur.size ≤ maxLen) : Rw w base e (some ⟨g, 0, none⟩) cur.size cur.size cur.toList :=
  Rw.of_own ho hb rfl (Nat.le_refl _) hm (List.take_of_length_le (by simp))
theorem Rw.ld {g j : Nat} {t : TypeId} {u : Value} (h : Rw w base e (some ⟨g, 0, none⟩) n c xs) (ht : oneB P t = true) (hu : xs[j]? = some u) : Loads P t w ⟨g, j, none⟩ u := h.sl.ld0 ht j hu
theorem take_setRow {cur : Array Value} {j n : Nat} {v : Value} (hj : j < n) (hn : n ≤ cur.size) : (setRow cur j [v]).toList.take n = (cur.toList.take n).set j v := by
  apply List.ext_getElem?
  intro q
  rw [List.getElem?_take, List.getElem?_set, List.getElem?_take]
  have hg := getElem?_setRow [v] cur j (by simp; omega) q
  rw [← Array.getElem?_toList] at hg
  by_cases hq : j = q
  · subst hq
    rw [if_pos hj, hg]
    simp
    omega
  · have hc : ¬ (j ≤ q ∧ q < j + [v].length) := by
      show ¬ (j ≤ q ∧ q < j + 1)
      omega
    rw [if_neg hc] at hg
    rw [if_neg hq, hg]
    simp
/-- A store into a row. -/
theorem Rw.put {g j : Nat} {cur : Array Value} {v : Value} (hx : cur.toList.take n = xs) (hw : Wr w w' g (setRow cur j [v]) e) (hb : base ≤ g) (hs : cur.size = c) (hn : n ≤ c) (hm : c ≤ maxLen) (hj : j < n) : Rw w' base e (some ⟨g, 0, none⟩) n c (xs.set j v) :=
  Rw.of_own hw.own hb (by rw [size_setRow]; exact hs) hn hm (by rw [take_setRow hj (by omega), hx])
/-- What an append leaves. -/
theorem Rw.of_row {v : Value} (h : w.ownsRow base e 1 v n xs) : ∃ A c, v = .slice A n c ∧ Rw w base e A n c xs := by
  rcases h.2 with ⟨hv, hn⟩ | ⟨g, cap, cur, hv, hb', _⟩
  · subst hv; subst hn; exact ⟨none, 0, rfl, h⟩
  · subst hv; exact ⟨_, _, rfl, h⟩
theorem Rw.grown (h : Rw w base e A n c xs) (hg : w.grownBy w' (Value.slice A n c).ownBlock) : Step (fun k => base ≤ k) w w' :=
  Step.of_grown hg fun k hk _ => (h.lt k hk).1
end

/-! ### 3. append of a slice that may be nil -/
section
variable {r : Option Nat} {n : Nat} {ds : List Deferred} {P : Program} {ops : Array Oper} {Q : Exit → Act → World → Prop} {l : List (Nat × Value)} {w : World} {i : Nat} {K : List (Nat × Value) → World → Prop}
def appOpS (P : Program) (n : Nat) (ops : Array Oper) (l : List (Nat × Value)) (i : Nat) : Option (Nat × TypeId × Option Addr × Nat × Nat × Option Addr × Nat × Nat) :=
  match theOp ops l i with
  | some { dst := some d, op := .call { callee := .builtin .append, args := ags, argTypes := ts }, .. } =>
    match (ts[0]? : Option TypeId), (ts[1]? : Option TypeId), ((ags.map (evL l))[0]? : Option Value), ((ags.map (evL l))[1]? : Option Value) with
    | some t, some t', some (Value.slice A m c), some (Value.slice A2 m2 c2) => match P.underlying t with
      | some (TypeDesc.slice e) => bif Nat.blt d n && Nat.beq t t' && Nat.beq ts.size 2 && Nat.beq ags.size 2 then some (d, e, A, m, c, A2, m2, c2) else none
      | _ => none
    | _, _, _, _ => none
  | _ => none
theorem run_append_empty {t ty e : TypeId} {inf : TypeInfo} (ht : P.underlying t = some (.slice e)) (hi : P.info? e = some inf) (A A2 : Option Addr) (m c c2 : Nat) (hm : m ≤ c) :
    (Builtin.append_ #[t, t] ty #[.slice A m c, .slice A2 0 c2]).run P w = .ok (.slice A m c) w := by
  have hf : (Builtin.firstCells inf.size 0 (.slice A2 0 c2)).run P w = .ok #[] w := by
    cases A2 <;> simp [Builtin.firstCells, loadCells, loadCellsFrom]
  cases A <;> simp [Builtin.append_, run_underlying ht, sizeOf, typeInfo, hi, Builtin.lenOf, hm, hf, storeCells]

theorem V1_appendS {d e m c m2 c2 bytes : Nat} {A A2 : Option Addr} (h : appOpS P n ops l i = some (d, e, A, m, c, A2, m2, c2)) (hi : appInfo P e = some (1, bytes)) (base B : Nat) (xs news : List Value) (hown : Rw w base e A m c xs)
    (hl : news.length = m2) (hnews : Sl w B A2 news) (h1 : ∀ u ∈ news, oneC u = true) (h63 : m + m2 ≤ maxLen) (hbytes : (m + m2) * bytes ≤ 140737488355328) (hbase : base ≤ w.heap.size)
    (next : ∀ A' c' w', Rw w' base e A' (m + m2) c' (xs ++ news) → Step (fun k => base ≤ k) w w' → K ((d, .slice A' (m + m2) c') :: l) w') : V1 r n ds P ops Q i l w K := by
  unfold appInfo at hi
  split at hi
  · rename_i inf hinf
    split at hi
    · rename_i z hz
      cases hb : Nat.beq z.cells.size inf.size && Nat.blt 0 inf.size with
      | false => rw [hb] at hi; cases hi
      | true =>
        rw [hb] at hi
        simp only [cond_true, Option.some.injEq, Prod.mk.injEq] at hi
        obtain ⟨hsz, hby⟩ := hi
        simp only [Bool.and_eq_true] at hb
        have hzs := Nat.eq_of_beq_eq_true hb.1
        unfold appOpS at h
        split at h
        · rename_i _ d' ags ts ty pos aft gd ho
          split at h
          · rename_i t t' A0 m0 c0 A20 m20 c20 h0 h1' hv hx
            split at h
            · rename_i e' hu
              cases hq : Nat.blt d' n && Nat.beq t t' && Nat.beq ts.size 2 && Nat.beq ags.size 2 with
              | false => rw [hq] at h; cases h
              | true =>
                rw [hq] at h
                simp only [cond_true, Option.some.injEq, Prod.mk.injEq] at h
                obtain ⟨rfl, rfl, rfl, rfl, rfl, rfl, rfl, rfl⟩ := h
                simp only [Bool.and_eq_true] at hq
                obtain ⟨⟨⟨q1, q2⟩, q3⟩, q4⟩ := hq
                have q2 := Nat.eq_of_beq_eq_true q2
                subst q2
                have hts := arr2 (Nat.eq_of_beq_eq_true q3) h0 h1'
                have has := arr2 (by simpa using Nat.eq_of_beq_eq_true q4) hv hx
                rcases Nat.eq_zero_or_pos m20 with hz0 | hpos
                · subst hz0
                  obtain rfl : news = [] := List.eq_nil_of_length_eq_zero hl
                  refine V1_value ho rfl q1 ?_ (next A0 c0 w ((by simpa using hown : Rw w base e' A0 (m0 + 0) c0 (xs ++ []))) (Step.refl _ _))
                  simp only [execOp, resolve, invoke, builtin, Sem.run_bind, Sem.run_pure, Result.andThen_ok, has, hts, run_append_empty hu hinf A0 A20 m0 c0 c20 hown.cap]
                  rfl
                · obtain ⟨b', o', rfl, _⟩ := hnews.open (by omega)
                  obtain ⟨v2, w2, hr, hr1, hr2, _⟩ := run_append_own (P := P) w base t ty e' inf z 1 bytes hu hinf hz hsz hby (by rw [hzs, hsz]) (by omega) _ m0 xs hown ⟨b', o', none⟩ m20 c20 news (by omega) (fun j u hj => by rw [add_none]; exact hnews.get j u hj) (fun u hu => oneC_oneCell (h1 u hu)) h63 hbytes hbase
                  obtain ⟨A', c', rfl, hR⟩ := Rw.of_row hr1
                  refine V1_value ho rfl q1 ?_ (next A' c' w2 hR (hown.grown hr2))
                  simp only [execOp, resolve, invoke, builtin, Sem.run_bind, Sem.run_pure, Result.andThen_ok, has, hts, hr]
            · cases h
          · cases h
        · cases h
    · cases hi
  · cases hi
end

/-! ### 4. Rows whose block is known; arrays -/
section
variable {F : Nat → Prop} {w w' w0 : World} {B base base' n n' c c' : Nat} {e : TypeId} {A : Option Addr} {xs ys : List Value} {P : Program} {k : IntKind} {bs bs' : List Int}
theorem Rw.openG {g : Nat} (h : Rw w base e (some ⟨g, 0, none⟩) n c xs) : ∃ cur, base ≤ g ∧ g < w.heap.size ∧ Own w g cur e ∧ cur.size = c ∧ n ≤ c ∧ c ≤ maxLen ∧ cur.toList.take n = xs := by
  rcases h.2 with ⟨hv, hn⟩ | ⟨g, cap, cur, hv, hb', hg, hc, hm, hs, ht⟩
  · cases hv
  · cases hv
    exact ⟨cur, hb', (Array.getElem?_eq_some_iff.1 hg).1, hg, by simpa using hs, hc, hm, by simpa using ht⟩
theorem Rw.keepG {g : Nat} (h : Rw w base e (some ⟨g, 0, none⟩) n c xs) (hs : Step F w w') (hF : ¬ F g) : Rw w' base e (some ⟨g, 0, none⟩) n c xs := by
  obtain ⟨cur, hb, hl, ho, h1, h2, h3, h4⟩ := h.openG
  exact Rw.of_own (ho.step hs hF) hb h1 h2 h3 h4
theorem Rw.ldI {g j : Nat} {t : TypeId} (h : Rw w base e (some ⟨g, 0, none⟩) n c (iL k bs)) (ht : oneB P t = true) (hj : j < n) : Loads P t w ⟨g, j, none⟩ (.int k (bs.getD j 0)) :=
  h.ld ht (iL_get j (by have := h.len; simp at this; omega))
theorem Rw.slI (h : Rw w base e A n c (iL k bs)) : Sl w w.heap.size A (iL k bs) := h.sl
theorem Rw.lenI (h : Rw w base e A n c (iL k bs)) : bs.length = n := by have := h.len; simpa using this
theorem Sl.ldI {b o : Nat} {t : TypeId} (h : Sl w B (some ⟨b, o, none⟩) (iL k bs)) (ht : oneB P t = true) (j : Nat) (hj : j < bs.length) : Loads P t w ⟨b, o + j, none⟩ (.int k (bs.getD j 0)) := h.ld ht j (iL_get j hj)
theorem Own.slI {b : Nat} (h : Own w b (iA k bs) e) (hB : b < B) : Sl w B (some ⟨b, 0, none⟩) (iL k bs) := by simpa [iA] using h.sl hB
end
section
variable {r : Option Nat} {n : Nat} {ds : List Deferred} {P : Program} {ops : Array Oper} {Q : Exit → Act → World → Prop} {l : List (Nat × Value)} {w : World} {i : Nat} {K : List (Nat × Value) → World → Prop}
end
section
variable {r : Option Nat} {n : Nat} {ds : List Deferred} {P : Program} {ops : Array Oper} {Q : Exit → Act → World → Prop} {tbl : List (List Nat)} {m : Nat} {l : List (Nat × Value)} {R : World → World → Prop} {ch : List Nat} {w : World}
theorem VTc_appendS {k d e mm c m2 c2 bytes : Nat} {A A2 : Option Addr} {is : List Nat} {kn : List (Nat × Value)} (h : appOpS P n ops (lkn ops tbl m l kn k) k = some (d, e, A, mm, c, A2, m2, c2)) (hd : dstOf ops k = some d) (hi : appInfo P e = some (1, bytes)) (base B : Nat) (xs news : List Value) (hown : Rw w base e A mm c xs)
    (hl : news.length = m2) (hnews : Sl w B A2 news) (h1 : ∀ u ∈ news, oneC u = true) (N : Nat) (hN : mm + m2 = N) (h63 : N ≤ maxLen) (hbytes : N * bytes ≤ 140737488355328) (hbase : base ≤ w.heap.size)
    (hR : ∀ w1, Step (fun k => base ≤ k) w w1 → R w w1)
    (next : ∀ A' c' w', Rw w' base e A' N c' (xs ++ news) → Step (fun k => base ≤ k) w w' → VT r n ds P ops Q tbl m l R ch is ((k, .slice A' N c') :: kn) w') : VTc r n ds P ops Q tbl m l R ch k is kn w := by
  subst hN
  exact V1_appendS h hi base B xs news hown hl hnews h1 h63 hbytes hbase fun A' c' w' hr hs => ⟨hR w' hs, .inl ⟨_, d, hd, look_head, next A' c' w' hr hs⟩⟩
end
/-! ### 5. Shifts by a variable -/
section
variable {r : Option Nat} {n : Nat} {ds : List Deferred} {P : Program} {ops : Array Oper} {Q : Exit → Act → World → Prop} {l : List (Nat × Value)} {w : World} {i : Nat} {K : List (Nat × Value) → World → Prop}
end
/-! ### 6. make -/
section
variable {r : Option Nat} {n : Nat} {ds : List Deferred} {P : Program} {ops : Array Oper} {Q : Exit → Act → World → Prop} {l : List (Nat × Value)} {w : World} {i : Nat} {K : List (Nat × Value) → World → Prop}
theorem Rw.made {w : World} {g e m : Nat} {k : IntKind} (ho : Own w g (iA k (List.replicate m 0)) e) (hm : m ≤ maxLen) : Rw w g e (some ⟨g, 0, none⟩) m m (iL k (List.replicate m 0)) :=
  Rw.of_own ho (Nat.le_refl _) (by simp) (Nat.le_refl _) hm (by rw [List.take_of_length_le (by simp [iA])]; simp [iA])
end
/-! ### 7. copy out of a slice that may be nil -/
def putL {α : Type} (c : List α) (o : Nat) (vs : List α) : List α := c.take o ++ vs ++ c.drop (o + vs.length)
section
variable {r : Option Nat} {n : Nat} {ds : List Deferred} {P : Program} {ops : Array Oper} {Q : Exit → Act → World → Prop} {l : List (Nat × Value)} {w : World} {i : Nat} {K : List (Nat × Value) → World → Prop}
end
/-! ### 8. Arrays are equal -/
theorem Loads.row {w : World} {base e g n c : Nat} {k : IntKind} {bs : List Int} {P : Program} {t : TypeId} (h : Rw w base e (some ⟨g, 0, none⟩) n c (iL k bs)) (ht : aggB P t = some n) : Loads P t w ⟨g, 0, none⟩ (.agg (iA k bs)) := by
  have hl := h.lenI
  refine Loads.cells ht _ (by simp [hl]) fun j hj => ?_
  rw [add_none, iA_get j (by omega)]
  exact h.slI.get j _ (iL_get j (by omega))
section
variable {r : Option Nat} {n : Nat} {ds : List Deferred} {P : Program} {ops : Array Oper} {Q : Exit → Act → World → Prop} {l : List (Nat × Value)} {w : World} {i : Nat}
end
end Go.Vc
end

section
/- More rules for slices: an address of any kind; copy in a region that draws its order. -/
set_option linter.unusedVariables false
set_option linter.unusedSimpArgs false
namespace Go.Vc
open Go.RowKit
section
variable {r : Option Nat} {n : Nat} {ds : List Deferred} {P : Program} {ops : Array Oper} {Q : Exit → Act → World → Prop} {tbl : List (List Nat)} {m : Nat} {l : List (Nat × Value)} {R : World → World → Prop} {ch : List Nat} {w : World} {i : Nat} {K : List (Nat × Value) → World → Prop}
def sliceOpA (P : Program) (n : Nat) (ops : Array Oper) (l : List (Nat × Value)) (i : Nat) : Option (Nat × Option Addr × Nat × Nat × Nat × Option Int × Option Int × Option Int) :=
  match theOp ops l i with
  | some { dst := some d, op := .slice t x lo hi mx, .. } =>
    match optInt l lo, optInt l hi, optInt l mx with
    | some lo, some hi, some mx => match P.underlying t, evL l x with
      | some (.slice elem), .slice A len cap => match (P.info? elem).map (·.size) with
        | some sz => bif Nat.blt d n then some (d, A, sz, len, cap, lo, hi, mx) else none
        | none => none
      | _, _ => none
    | _, _, _ => none
  | _ => none
def movA (A : Option Addr) (b : Bool) (k : Nat) : Option Addr := A.map fun a => bif b then a else a.add k
theorem V1_sliceA {d sz len cap : Nat} {A : Option Addr} {lo hi mx : Option Int} (h : sliceOpA P n ops l i = some (d, A, sz, len, cap, lo, hi, mx)) (hno : mx ≠ none → hi ≠ none) (L H M : Nat)
    (hl : lo.getD 0 = L) (hh : hi.getD len = H) (hm : mx.getD cap = M) (h1 : L ≤ H) (h2 : H ≤ M) (h3 : M ≤ cap) (next : K ((d, .slice (movA A (decide (M = L)) (L * sz)) (H - L) (M - L)) :: l) w) : V1 r n ds P ops Q i l w K := by
  unfold sliceOpA at h
  split at h
  · rename_i _ d' t x lo' hi' mx' ty pos aft gd ho
    split at h
    · rename_i loi hii mxi hlo hhi hmx
      split at h
      · rename_i elem A' len' cap' hu hx
        split at h
        · rename_i sz' hsz
          cases hb : Nat.blt d' n with
          | false => rw [hb] at h; cases h
          | true =>
            rw [hb] at h
            simp only [cond_true, Option.some.injEq, Prod.mk.injEq] at h
            obtain ⟨rfl, rfl, rfl, rfl, rfl, rfl, rfl, rfl⟩ := h
            obtain ⟨inf, hinf, hs⟩ := Option.map_eq_some_iff.1 hsz
            refine V1_value ho rfl hb ?_ next
            simp only [execOp, Instr.sliceAt, Instr.slice, hx, Sem.run_bind, run_underlying' hu, Result.andThen_ok, Sem.run_pure, run_sliceBounds (w := w) (P := P) hlo hhi hmx hno L H M hl hh hm h1 h2 h3, run_sizeOf hinf, hs, add_none, movA]
            cases A' <;> by_cases e : M = L <;> simp [e]
        · cases h
      · cases h
    · cases h
  · cases h
theorem VT_sliceA {k d sz len cap : Nat} {A : Option Addr} {lo hi mx : Option Int} {is : List Nat} {kn : List (Nat × Value)} (h : sliceOpA P n ops (lkn ops tbl m l kn k) k = some (d, A, sz, len, cap, lo, hi, mx)) (hd : dstOf ops k = some d) (hno : mx ≠ none → hi ≠ none) (L H M : Nat)
    (hl : lo.getD 0 = L) (hh : hi.getD len = H) (hm : mx.getD cap = M) (h1 : L ≤ H) (h2 : H ≤ M) (h3 : M ≤ cap) (N : Nat) (hN : H - L = N) (C : Nat) (hC : M - L = C) (next : VT r n ds P ops Q tbl m l R ch is ((k, .slice (movA A (decide (M = L)) (L * sz)) N C) :: kn) w) : VT r n ds P ops Q tbl m l R ch (k :: is) kn w := by
  subst hN; subst hC
  exact VT_float _ (fun w' hR => V1_sliceA h hno L H M hl hh hm h1 h2 h3 ⟨⟨d, hd, look_head⟩, Step.refl _ _⟩) next
theorem VL_sliceA {d sz len cap : Nat} {A : Option Addr} {lo hi mx : Option Int} (h : sliceOpA P n ops l i = some (d, A, sz, len, cap, lo, hi, mx)) (hi' : Nat.blt i ops.size = true) (hno : mx ≠ none → hi ≠ none) (L H M : Nat)
    (hl : lo.getD 0 = L) (hh : hi.getD len = H) (hm : mx.getD cap = M) (h1 : L ≤ H) (h2 : H ≤ M) (h3 : M ≤ cap) (N : Nat) (hN : H - L = N) (C : Nat) (hC : M - L = C) (next : VL r n ds P ops Q (i + 1) ((d, .slice (movA A (decide (M = L)) (L * sz)) N C) :: l) w) : VL r n ds P ops Q i l w := by
  subst hN; subst hC
  exact VL_of_V1 hi' (V1_sliceA h hno L H M hl hh hm h1 h2 h3 next)
end
end Go.Vc
end

section
/- The rest by a variable. -/
set_option linter.unusedVariables false
set_option linter.unusedSimpArgs false
namespace Go.Vc
open Go.RowKit
section
variable {r : Option Nat} {n : Nat} {ds : List Deferred} {P : Program} {ops : Array Oper} {Q : Exit → Act → World → Prop} {l : List (Nat × Value)} {w : World} {i : Nat} {K : List (Nat × Value) → World → Prop}
def remOp (n : Nat) (ops : Array Oper) (l : List (Nat × Value)) (i : Nat) : Option (Nat × IntKind × Int × Int) :=
  match theOp ops l i with
  | some { dst := some d, op := .binOp .rem _ x y _, .. } => match evL l x, evL l y with
    | .int k a, .int k' b => if k = k' then bif Nat.blt d n then some (d, k, a, b) else none else none
    | _, _ => none
  | _ => none
theorem V1_rem {d : Nat} {k : IntKind} {x y : Int} (h : remOp n ops l i = some (d, k, x, y)) (hy : y ≠ 0) (next : K ((d, .int k (x.tmod y)) :: l) w) : V1 r n ds P ops Q i l w K := by
  unfold remOp at h
  split at h
  · rename_i _ d' t a b u ty pos aft gd ho
    split at h
    · rename_i k' xa yk yb hx hyv
      split at h
      · rename_i hk
        subst hk
        cases hb : Nat.blt d' n with
        | false => rw [hb] at h; cases h
        | true =>
          rw [hb] at h
          simp only [cond_true, Option.some.injEq, Prod.mk.injEq] at h
          obtain ⟨rfl, rfl, rfl, rfl⟩ := h
          refine V1_value ho rfl hb ?_ next
          simp [execOp, eqGuard, binOp, Op.intDiv, hx, hyv, Sem.run_bind, hy]
      · cases h
    · cases h
  · cases h
theorem VL_rem {d : Nat} {k : IntKind} {x y : Int} (h : remOp n ops l i = some (d, k, x, y)) (hi : Nat.blt i ops.size = true) (hy : y ≠ 0) (next : VL r n ds P ops Q (i + 1) ((d, .int k (x.tmod y)) :: l) w) : VL r n ds P ops Q i l w :=
  VL_of_V1 hi (V1_rem h hy next)
end
end Go.Vc
end

section
/- A slice's elements as an array. -/
set_option linter.unusedVariables false
set_option linter.unusedSimpArgs false
namespace Go.Vc
open Go.RowKit
section
variable {r : Option Nat} {n : Nat} {ds : List Deferred} {P : Program} {ops : Array Oper} {Q : Exit → Act → World → Prop} {l : List (Nat × Value)} {w : World} {i : Nat} {K : List (Nat × Value) → World → Prop}
end
end Go.Vc
end

section
/- Slices of a view whose address is of any kind: the result is a view again. -/
set_option linter.unusedVariables false
set_option linter.unusedSimpArgs false
namespace Go.Vc
open Go.RowKit
theorem Sl.mov {w : World} {B L H M sz : Nat} {A : Option Addr} {xs : List Value} (h : Sl w B A xs) (hM : H ≤ M) : Sl w B (movA A (decide (M = L)) (L * sz)) ((xs.drop (L * sz)).take ((H - L) * sz)) := by
  intro h0
  have h1 : 0 < xs.length := by simp at h0; omega
  obtain ⟨b, o, rfl, hb⟩ := h.open h1
  by_cases e : M = L
  · exfalso
    have : H - L = 0 := by omega
    rw [this, Nat.zero_mul, List.take_zero] at h0
    simp at h0
  · have hm : movA (some ⟨b, o, none⟩) (decide (M = L)) (L * sz) = some ⟨b, o + L * sz, none⟩ := by simp [movA, e, add_none]
    rw [hm]
    exact h.sub (L * sz) ((H - L) * sz) h0 |> fun ⟨b', o', hA, hb', hc⟩ => ⟨b', o', hA, hb', hc⟩
section
variable {r : Option Nat} {n : Nat} {ds : List Deferred} {P : Program} {ops : Array Oper} {Q : Exit → Act → World → Prop} {tbl : List (List Nat)} {m : Nat} {l : List (Nat × Value)} {R : World → World → Prop} {ch : List Nat} {w : World} {i : Nat}
theorem VT_sliceV {k d sz len cap B : Nat} {A : Option Addr} {xs : List Value} {lo hi mx : Option Int} {is : List Nat} {kn : List (Nat × Value)} (h : sliceOpA P n ops (lkn ops tbl m l kn k) k = some (d, A, sz, len, cap, lo, hi, mx)) (hd : dstOf ops k = some d) (hno : mx ≠ none → hi ≠ none) (hA : Sl w B A xs) (L H M : Nat)
    (hl : lo.getD 0 = L) (hh : hi.getD len = H) (hm : mx.getD cap = M) (h1 : L ≤ H) (h2 : H ≤ M) (h3 : M ≤ cap) (N : Nat) (hN : H - L = N) (C : Nat) (hC : M - L = C) (ys : List Value) (hy : (xs.drop (L * sz)).take (N * sz) = ys) (next : ∀ A', Sl w B A' ys → VT r n ds P ops Q tbl m l R ch is ((k, .slice A' N C) :: kn) w) : VT r n ds P ops Q tbl m l R ch (k :: is) kn w := by
  subst hN; subst hC; subst hy
  exact VT_sliceA h hd hno L H M hl hh hm h1 h2 h3 _ rfl _ rfl (next _ (hA.mov h2))
theorem VL_sliceV {d sz len cap B : Nat} {A : Option Addr} {xs : List Value} {lo hi mx : Option Int} (h : sliceOpA P n ops l i = some (d, A, sz, len, cap, lo, hi, mx)) (hi' : Nat.blt i ops.size = true) (hno : mx ≠ none → hi ≠ none) (hA : Sl w B A xs) (L H M : Nat)
    (hl : lo.getD 0 = L) (hh : hi.getD len = H) (hm : mx.getD cap = M) (h1 : L ≤ H) (h2 : H ≤ M) (h3 : M ≤ cap) (N : Nat) (hN : H - L = N) (C : Nat) (hC : M - L = C) (ys : List Value) (hy : (xs.drop (L * sz)).take (N * sz) = ys) (next : ∀ A', Sl w B A' ys → VL r n ds P ops Q (i + 1) ((d, .slice A' N C) :: l) w) : VL r n ds P ops Q i l w := by
  subst hN; subst hC; subst hy
  exact VL_sliceA h hi' hno L H M hl hh hm h1 h2 h3 _ rfl _ rfl (next _ (hA.mov h2))
end
theorem iL_takeV {k : IntKind} (bs : List Int) (N : Nat) : ((iL k bs).drop (0 * 1)).take (N * 1) = iL k (bs.take N) := by rw [iL_take, Nat.zero_mul, Nat.mul_one, List.drop_zero]
end Go.Vc
end

section
/- Rows of one's own whose elements have any number of cells; append to them; views whose block lies between two bounds. -/
set_option linter.unusedVariables false
set_option linter.unusedSimpArgs false
namespace Go.Vc
open Go.RowKit
/-- The block at which an address points. -/
def ownB (A : Option Addr) (k : Nat) : Prop := ∃ a, A = some a ∧ a.block = k
def RwS (w : World) (sz base : Nat) (e : TypeId) (A : Option Addr) (n c : Nat) (xs : List Value) : Prop := w.ownsRow base e sz (.slice A n c) n xs
section
variable {F : Nat → Prop} {w w' w0 : World} {B base base' n n' c c' sz : Nat} {e : TypeId} {A : Option Addr} {xs ys : List Value} {P : Program}
theorem RwS.len (h : RwS w sz base e A n c xs) : xs.length = n * sz := h.1
theorem RwS.nil (w : World) (sz base : Nat) (e : TypeId) : RwS w sz base e none 0 0 [] := World.ownsRow_nil w base e sz
theorem RwS.cast (h : RwS w sz base e A n c xs) (hn : n = n') (hx : xs = ys) : RwS w sz base e A n' c ys := by subst hn; subst hx; exact h
/-- What keeps the row's own block keeps the row. -/
theorem RwS.keepO (h : RwS w sz base e A n c xs) (hs : Step F w w') (hF : ∀ k, ownB A k → ¬ F k) : RwS w' sz base e A n c xs := by
  refine ⟨h.1, ?_⟩
  rcases h.2 with hn | ⟨g, cap, cur, hv, hb, hg, rest⟩
  · exact .inl hn
  · refine .inr ⟨g, cap, cur, hv, hb, (hs.block g (Array.getElem?_eq_some_iff.1 hg).1 (hF g ?_)).trans hg, rest⟩
    cases hv
    exact ⟨_, rfl, rfl⟩
theorem RwS.lt (h : RwS w sz base e A n c xs) (k : Nat) (hk : ownB A k) : base ≤ k ∧ k < w.heap.size := by
  obtain ⟨a, rfl, rfl⟩ := hk
  rcases h.2 with ⟨hv, _⟩ | ⟨g, cap, cur, hv, hb, hg, rest⟩
  · cases hv
  · cases hv; exact ⟨hb, (Array.getElem?_eq_some_iff.1 hg).1⟩
theorem RwS.step (h : RwS w sz base e A n c xs) (hs : Step F w w') (hF : ∀ k, base ≤ k → ¬ F k) : RwS w' sz base e A n c xs := h.keepO hs fun k hk => hF k (h.lt k hk).1
theorem RwS.no (h : RwS w sz base e A n c xs) (hs : Step No w w') : RwS w' sz base e A n c xs := h.step hs fun _ _ => id
theorem RwS.low (h : RwS w sz base e A n c xs) (hb : base' ≤ base) : RwS w sz base' e A n c xs := by
  refine ⟨h.1, ?_⟩
  rcases h.2 with hn | ⟨g, cap, cur, hv, hb', rest⟩
  · exact .inl hn
  · exact .inr ⟨g, cap, cur, hv, by omega, rest⟩
theorem RwS.cap (h : RwS w sz base e A n c xs) : n ≤ c := by
  rcases h.2 with ⟨hv, hn⟩ | ⟨g, cap, cur, hv, hb', _, hc, _⟩
  · cases hv; omega
  · cases hv; exact hc
/-- A view whose block lies between two bounds. -/
def Sl2 (w : World) (lo hi : Nat) (A : Option Addr) (xs : List Value) : Prop :=
  0 < xs.length → ∃ b o, A = some ⟨b, o, none⟩ ∧ lo ≤ b ∧ b < hi ∧ ∀ j u, xs[j]? = some u → w.cell? ⟨b, o + j, none⟩ = some u
theorem Sl2.sl {lo hi : Nat} (h : Sl2 w lo hi A xs) : Sl w hi A xs := fun h0 => by
  obtain ⟨b, o, hA, _, hb, hc⟩ := h h0
  exact ⟨b, o, hA, hb, hc⟩
theorem Sl.sl2 {hi : Nat} (h : Sl w hi A xs) : Sl2 w 0 hi A xs := fun h0 => by
  obtain ⟨b, o, hA, hb, hc⟩ := h h0
  exact ⟨b, o, hA, Nat.zero_le _, hb, hc⟩
theorem Sl2.step {lo hi : Nat} (h : Sl2 w lo hi A xs) (hs : Step F w w') (hF : ∀ k, lo ≤ k → k < hi → ¬ F k) : Sl2 w' lo hi A xs := by
  intro h0
  obtain ⟨b, o, hA, h1, h2, hc⟩ := h h0
  exact ⟨b, o, hA, h1, h2, fun j u hu => hs.cell (hF b h1 h2) (hc j u hu)⟩
theorem Sl2.mono {lo hi lo' hi' : Nat} (h : Sl2 w lo hi A xs) (h1 : lo' ≤ lo) (h2 : hi ≤ hi') : Sl2 w lo' hi' A xs := by
  intro h0
  obtain ⟨b, o, hA, h3, h4, hc⟩ := h h0
  exact ⟨b, o, hA, by omega, by omega, hc⟩
theorem RwS.sl2 (h : RwS w sz base e A n c xs) : Sl2 w base w.heap.size A xs := by
  intro h0
  rcases h.2 with ⟨hv, hn⟩ | ⟨g, cap, cur, hv, hb', hg, _, _, _, ht⟩
  · have := h.1; subst hn; rw [Nat.zero_mul] at this; omega
  · cases hv
    refine ⟨g, 0, rfl, hb', (Array.getElem?_eq_some_iff.1 hg).1, fun j u hu => ?_⟩
    rw [Nat.zero_add, (show Own w g cur e from hg).cell]
    rw [← ht, List.getElem?_take] at hu
    split at hu
    · simpa using hu
    · cases hu
theorem RwS.of_row {v : Value} (h : w.ownsRow base e sz v n xs) : ∃ A c, v = .slice A n c ∧ RwS w sz base e A n c xs := by
  rcases h.2 with ⟨hv, hn⟩ | ⟨g, cap, cur, hv, hb', _⟩
  · subst hv; subst hn; exact ⟨none, 0, rfl, h⟩
  · subst hv; exact ⟨_, _, rfl, h⟩
theorem RwS.grown (h : RwS w sz base e A n c xs) (hg : w.grownBy w' (Value.slice A n c).ownBlock) : Step (ownB A) w w' :=
  Step.of_grown hg fun k hk _ => by
    cases A with
    | none => cases hk
    | some a => simp only [Value.ownBlock, Option.some.injEq] at hk; exact ⟨a, rfl, hk⟩
theorem RwS.of_new {g : Nat} {cur : Array Value} (ho : Own w g cur e) (hb : base ≤ g) (hm : n ≤ maxLen) (hs : cur.size = n * sz) : RwS w sz base e (some ⟨g, 0, none⟩) n n cur.toList := by
  refine ⟨by simpa using hs, .inr ⟨g, n, cur, rfl, hb, ho, Nat.le_refl _, hm, hs, ?_⟩⟩
  rw [← hs, ← Array.length_toList, List.take_length]
/-- Rows of two types have two blocks. -/
theorem RwS.apart {sz' base' n' c' : Nat} {e' : TypeId} {A' : Option Addr} {ys : List Value} (h : RwS w sz base e A n c xs) (h' : RwS w sz' base' e' A' n' c' ys) (hne : e ≠ e') (k : Nat) (hk : ownB A k) : ¬ ownB A' k := by
  rintro ⟨a', rfl, rfl⟩
  obtain ⟨a, rfl, hab⟩ := hk
  rcases h.2 with ⟨hv, _⟩ | ⟨g, cap, cur, hv, _, hg, _⟩
  · cases hv
  · rcases h'.2 with ⟨hv', _⟩ | ⟨g', cap', cur', hv', _, hg', _⟩
    · cases hv'
    · cases hv; cases hv'
      simp only at hab
      subst hab
      rw [hg] at hg'
      simp only [Option.some.injEq, Obj.cells.injEq] at hg'
      exact hne hg'.2.1
end
section
variable {r : Option Nat} {n : Nat} {ds : List Deferred} {P : Program} {ops : Array Oper} {Q : Exit → Act → World → Prop} {l : List (Nat × Value)} {w : World} {i : Nat} {K : List (Nat × Value) → World → Prop}
theorem V1_appendZ {d e m c m2 c2 sz bytes : Nat} {A A2 : Option Addr} (h : appOpS P n ops l i = some (d, e, A, m, c, A2, m2, c2)) (hi : appInfo P e = some (sz, bytes)) (base B : Nat) (xs news : List Value) (hown : RwS w sz base e A m c xs)
    (hl : news.length = m2 * sz) (hnews : Sl w B A2 news) (h1 : ∀ u ∈ news, oneC u = true) (h63 : m + m2 ≤ maxLen) (hbytes : (m + m2) * bytes ≤ 140737488355328) (hbase : base ≤ w.heap.size)
    (next : ∀ A' c' w', RwS w' sz base e A' (m + m2) c' (xs ++ news) → Step (ownB A) w w' → K ((d, .slice A' (m + m2) c') :: l) w') : V1 r n ds P ops Q i l w K := by
  unfold appInfo at hi
  split at hi
  · rename_i inf hinf
    split at hi
    · rename_i z hz
      cases hb : Nat.beq z.cells.size inf.size && Nat.blt 0 inf.size with
      | false => rw [hb] at hi; cases hi
      | true =>
        rw [hb] at hi
        simp only [cond_true, Option.some.injEq, Prod.mk.injEq] at hi
        obtain ⟨hsz, hby⟩ := hi
        simp only [Bool.and_eq_true] at hb
        have hzs := Nat.eq_of_beq_eq_true hb.1
        have hszp := blt_spec hb.2
        unfold appOpS at h
        split at h
        · rename_i _ d' ags ts ty pos aft gd ho
          split at h
          · rename_i t t' A0 m0 c0 A20 m20 c20 h0 h1' hv hx
            split at h
            · rename_i e' hu
              cases hq : Nat.blt d' n && Nat.beq t t' && Nat.beq ts.size 2 && Nat.beq ags.size 2 with
              | false => rw [hq] at h; cases h
              | true =>
                rw [hq] at h
                simp only [cond_true, Option.some.injEq, Prod.mk.injEq] at h
                obtain ⟨rfl, rfl, rfl, rfl, rfl, rfl, rfl, rfl⟩ := h
                simp only [Bool.and_eq_true] at hq
                obtain ⟨⟨⟨q1, q2⟩, q3⟩, q4⟩ := hq
                have q2 := Nat.eq_of_beq_eq_true q2
                subst q2
                have hts := arr2 (Nat.eq_of_beq_eq_true q3) h0 h1'
                have has := arr2 (by simpa using Nat.eq_of_beq_eq_true q4) hv hx
                rcases Nat.eq_zero_or_pos m20 with hz0 | hpos
                · subst hz0
                  obtain rfl : news = [] := List.eq_nil_of_length_eq_zero (by rw [hl, Nat.zero_mul])
                  refine V1_value ho rfl q1 ?_ (next A0 c0 w ((by simpa using hown : RwS w sz base e' A0 (m0 + 0) c0 (xs ++ []))) (Step.refl _ _))
                  simp only [execOp, resolve, invoke, builtin, Sem.run_bind, Sem.run_pure, Result.andThen_ok, has, hts, run_append_empty hu hinf A0 A20 m0 c0 c20 hown.cap]
                  rfl
                · obtain ⟨b', o', rfl, _⟩ := hnews.open (by rw [hl]; exact Nat.mul_pos hpos (by omega))
                  obtain ⟨v2, w2, hr, hr1, hr2, _⟩ := run_append_own (P := P) w base t ty e' inf z sz bytes hu hinf hz hsz hby (by rw [hzs, hsz]) (by omega) _ m0 xs hown ⟨b', o', none⟩ m20 c20 news hl (fun j u hj => by rw [add_none]; exact hnews.get j u hj) (fun u hu => oneC_oneCell (h1 u hu)) h63 hbytes hbase
                  obtain ⟨A', c', rfl, hR⟩ := RwS.of_row hr1
                  refine V1_value ho rfl q1 ?_ (next A' c' w2 hR (hown.grown hr2))
                  simp only [execOp, resolve, invoke, builtin, Sem.run_bind, Sem.run_pure, Result.andThen_ok, has, hts, hr]
            · cases h
          · cases h
        · cases h
    · cases hi
  · cases hi
theorem VL_appendZ {d e m c m2 c2 sz bytes : Nat} {A A2 : Option Addr} (h : appOpS P n ops l i = some (d, e, A, m, c, A2, m2, c2)) (hi' : Nat.blt i ops.size = true) (hi : appInfo P e = some (sz, bytes)) (base B : Nat) (xs news : List Value) (hown : RwS w sz base e A m c xs)
    (hl : news.length = m2 * sz) (hnews : Sl w B A2 news) (h1 : ∀ u ∈ news, oneC u = true) (N : Nat) (hN : m + m2 = N) (h63 : N ≤ maxLen) (hbytes : N * bytes ≤ 140737488355328) (hbase : base ≤ w.heap.size)
    (next : ∀ A' c' w', RwS w' sz base e A' N c' (xs ++ news) → Step (ownB A) w w' → VL r n ds P ops Q (i + 1) ((d, .slice A' N c') :: l) w') : VL r n ds P ops Q i l w := by
  subst hN
  exact VL_of_V1 hi' (V1_appendZ h hi base B xs news hown hl hnews h1 h63 hbytes hbase next)
end
section
variable {r : Option Nat} {n : Nat} {ds : List Deferred} {P : Program} {ops : Array Oper} {Q : Exit → Act → World → Prop} {tbl : List (List Nat)} {m : Nat} {l : List (Nat × Value)} {R : World → World → Prop} {ch : List Nat} {w : World}
theorem VTc_appendZ {k d e mm c m2 c2 sz bytes : Nat} {A A2 : Option Addr} {is : List Nat} {kn : List (Nat × Value)} (h : appOpS P n ops (lkn ops tbl m l kn k) k = some (d, e, A, mm, c, A2, m2, c2)) (hd : dstOf ops k = some d) (hi : appInfo P e = some (sz, bytes)) (base B : Nat) (xs news : List Value) (hown : RwS w sz base e A mm c xs)
    (hl : news.length = m2 * sz) (hnews : Sl w B A2 news) (h1 : ∀ u ∈ news, oneC u = true) (N : Nat) (hN : mm + m2 = N) (h63 : N ≤ maxLen) (hbytes : N * bytes ≤ 140737488355328) (hbase : base ≤ w.heap.size)
    (hR : ∀ w1, Step (ownB A) w w1 → R w w1)
    (next : ∀ A' c' w', RwS w' sz base e A' N c' (xs ++ news) → Step (ownB A) w w' → VT r n ds P ops Q tbl m l R ch is ((k, .slice A' N c') :: kn) w') : VTc r n ds P ops Q tbl m l R ch k is kn w := by
  subst hN
  exact V1_appendZ h hi base B xs news hown hl hnews h1 h63 hbytes hbase fun A' c' w' hr hs => ⟨hR w' hs, .inl ⟨_, d, hd, look_head, next A' c' w' hr hs⟩⟩
end
end Go.Vc
end

section
/- The calculus' twenty-second part: an element of an array's value; rows and views of elements of several cells, told by a list. -/
set_option linter.unusedVariables false
set_option linter.unusedSimpArgs false
namespace Go.Vc
open Go.RowKit
section
variable {r : Option Nat} {n : Nat} {ds : List Deferred} {P : Program} {ops : Array Oper} {Q : Exit → Act → World → Prop} {l : List (Nat × Value)} {w : World} {i : Nat} {K : List (Nat × Value) → World → Prop}
def ixAOp (P : Program) (n : Nat) (ops : Array Oper) (l : List (Nat × Value)) (i : Nat) : Option (Nat × TypeId × Nat × Array Value × Int) :=
  match theOp ops l i with
  | some { dst := some d, op := .index t x y, .. } => match P.underlying t, evL l x, evL l y with
    | some (.array len e), .agg cs, .int .i64 m => bif Nat.blt d n then some (d, e, len, cs, m) else none
    | _, _, _ => none
  | _ => none
theorem V1_ixA {d len sz e : Nat} {cs : Array Value} {m : Int} (h : ixAOp P n ops l i = some (d, e, len, cs, m)) (ha : aggB P e = some sz) (j : Nat) (hm : m = (j : Nat)) (hj : j < len) (v : Array Value) (hv : cs.extract (j * sz) (j * sz + sz) = v) (next : K ((d, .agg v) :: l) w) : V1 r n ds P ops Q i l w K := by
  unfold ixAOp at h
  split at h
  · rename_i _ d' t x y ty pos aft gd ho
    split at h
    · rename_i len' e' cs' m' hu hx hy
      cases hb : Nat.blt d' n with
      | false => rw [hb] at h; cases h
      | true =>
        rw [hb] at h
        simp only [cond_true, Option.some.injEq, Prod.mk.injEq] at h
        obtain ⟨rfl, rfl, rfl, rfl, rfl⟩ := h
        refine V1_value ho rfl hb ?_ next
        subst hm; subst hv
        have hi : (P.info? e').map (·.size) = some sz := by
          unfold aggB at ha
          split at ha <;> first | exact ha | cases ha
        obtain ⟨inf, hinf, hsz⟩ := Option.map_eq_some_iff.1 hi
        have h0 : (0 : Int) ≤ (j : Int) ∧ (j : Int) < (len' : Nat) := ⟨by omega, by omega⟩
        simp only [execOp, Instr.index, hx, hy, asIntOf, Sem.run_bind, Sem.run_pure, Result.andThen_ok, run_underlying' hu, h0, and_self, if_true, run_sizeOf hinf, hsz, part, run_isAgg_agg ha, Int.toNat_natCast]
    · cases h
  · cases h
theorem VL_ixA {d len sz e : Nat} {cs : Array Value} {m : Int} (h : ixAOp P n ops l i = some (d, e, len, cs, m)) (hi : Nat.blt i ops.size = true) (ha : aggB P e = some sz) (j : Nat) (hm : m = (j : Nat)) (hj : j < len) (v : Array Value) (hv : cs.extract (j * sz) (j * sz + sz) = v) (next : VL r n ds P ops Q (i + 1) ((d, .agg v) :: l) w) : VL r n ds P ops Q i l w :=
  VL_of_V1 hi (V1_ixA h ha j hm hj v hv next)
end
/-- Elements, side by side: enc: the cells of one. -/
def flat {α : Type} (enc : α → List Value) (xs : List α) : List Value := xs.flatMap enc
section
variable {α : Type} {enc : α → List Value} {sz : Nat}
theorem flat_cons (x : α) (xs : List α) : flat enc (x :: xs) = enc x ++ flat enc xs := rfl
theorem flat_append (xs ys : List α) : flat enc (xs ++ ys) = flat enc xs ++ flat enc ys := by simp [flat]
theorem flat_one (x : α) : flat enc [x] = enc x := by simp [flat]
theorem flat_len (h : ∀ x, (enc x).length = sz) (xs : List α) : (flat enc xs).length = xs.length * sz := by
  induction xs with
  | nil => simp [flat]
  | cons x xs ih => rw [flat_cons, List.length_append, ih, h, List.length_cons, Nat.add_mul, Nat.one_mul, Nat.add_comm]
theorem flat_get (h : ∀ x, (enc x).length = sz) (xs : List α) (i c : Nat) (hc : c < sz) : (flat enc xs)[i * sz + c]? = (xs[i]?).bind fun x => (enc x)[c]? := by
  induction xs generalizing i with
  | nil => simp [flat]
  | cons x xs ih =>
    rw [flat_cons]
    cases i with
    | zero => rw [Nat.zero_mul, Nat.zero_add, List.getElem?_append_left (by rw [h]; exact hc)]; simp
    | succ i =>
      rw [List.getElem?_append_right (by rw [h, Nat.add_mul, Nat.one_mul]; omega), h, show (i + 1) * sz + c - sz = i * sz + c by rw [Nat.add_mul, Nat.one_mul]; omega, ih]
      simp
theorem flat_at (h : ∀ x, (enc x).length = sz) {xs : List α} {i : Nat} {x : α} (hx : xs[i]? = some x) (c : Nat) (hc : c < sz) : (flat enc xs)[i * sz + c]? = (enc x)[c]? := by rw [flat_get h xs i c hc, hx]; rfl
theorem flat_take (h : ∀ x, (enc x).length = sz) (xs : List α) (k : Nat) : flat enc (xs.take k) = (flat enc xs).take (k * sz) := by
  induction xs generalizing k with
  | nil => simp [flat]
  | cons x xs ih =>
    cases k with
    | zero => simp [flat]
    | succ k =>
      rw [List.take_succ_cons, flat_cons, flat_cons, ih, List.take_append, h, List.take_of_length_le (l := enc x) (by rw [h, Nat.add_mul, Nat.one_mul]; omega)]
      congr 2
      rw [Nat.add_mul, Nat.one_mul]; omega
theorem flat_drop (h : ∀ x, (enc x).length = sz) (xs : List α) (k : Nat) : flat enc (xs.drop k) = (flat enc xs).drop (k * sz) := by
  induction xs generalizing k with
  | nil => simp [flat]
  | cons x xs ih =>
    cases k with
    | zero => simp
    | succ k =>
      rw [List.drop_succ_cons, flat_cons, ih, List.drop_append, h, List.drop_of_length_le (l := enc x) (by rw [h, Nat.add_mul, Nat.one_mul]; omega), List.nil_append]
      congr 1
      rw [Nat.add_mul, Nat.one_mul]; omega
theorem flat_cut (h : ∀ x, (enc x).length = sz) (xs : List α) (L N : Nat) : ((flat enc xs).drop (L * sz)).take (N * sz) = flat enc ((xs.drop L).take N) := by rw [flat_take h, flat_drop h]
theorem flat_one' (h : ∀ x, ∀ u ∈ enc x, oneC u = true) (xs : List α) : ∀ u ∈ flat enc xs, oneC u = true := by
  intro u hu
  obtain ⟨x, _, hx⟩ := List.mem_flatMap.1 hu
  exact h x u hx
variable {w w' : World} {B : Nat} {A : Option Addr} {P : Program} {t : TypeId}
theorem RwS.keepG {F : Nat → Prop} {base e g n c : Nat} {xs : List Value} (h : RwS w sz base e (some ⟨g, 0, none⟩) n c xs) (hs : Step F w w') (hF : ¬ F g) : RwS w' sz base e (some ⟨g, 0, none⟩) n c xs :=
  h.keepO hs fun k hk => by
    obtain ⟨a, h1, h2⟩ := hk
    cases h1
    rw [← h2]; exact hF
/-- An element that lies in a view: its cells, whole or one by one. -/
theorem Sl.flatAgg {b o : Nat} {xs : List α} (h : Sl w B (some ⟨b, o, none⟩) (flat enc xs)) (hs : ∀ x, (enc x).length = sz) {i : Nat} {x : α} (hx : xs[i]? = some x) (off m : Nat) (ht : aggB P t = some m) (hm : off + m ≤ sz) (o' : Nat) (ho : o' = o + i * sz + off) : Loads P t w ⟨b, o', none⟩ (.agg (((enc x).drop off).take m).toArray) := by
  subst ho
  refine Loads.cells ht _ (by simp [hs]; omega) fun j hj => ?_
  rw [add_none]
  have h1 := flat_at hs hx (off + j) (by omega)
  have hlt : off + j < (enc x).length := by rw [hs]; omega
  rw [List.getElem?_eq_getElem hlt] at h1
  have := h.get _ _ h1
  rw [show o + (i * sz + (off + j)) = o + i * sz + off + j by omega] at this
  rw [this]
  simp [hj, List.getElem?_eq_getElem hlt]
theorem Sl.flatOne {b o : Nat} {xs : List α} (h : Sl w B (some ⟨b, o, none⟩) (flat enc xs)) (hs : ∀ x, (enc x).length = sz) {i : Nat} {x : α} (hx : xs[i]? = some x) (off : Nat) {v : Value} (hv : (enc x)[off]? = some v) (hoff : off < sz) (ht : oneB P t = true) (o' : Nat) (ho : o' = o + i * sz + off) : Loads P t w ⟨b, o', none⟩ v := by
  subst ho
  have h1 := flat_at hs hx off hoff
  rw [hv] at h1
  have := h.get _ _ h1
  refine Loads.one ht ?_
  rw [← this]; congr 2; omega
end
end Go.Vc
end

section
/- The kit's sort, at a table's slots, in the calculus' words. -/
set_option linter.unusedVariables false
set_option linter.unusedSimpArgs false
namespace Go.Proofs.YthchmlidobgkoaaGreat
open Go.Vc Go.RowKit Go.Sort Go.Shelf
/-- Slots, side by side. -/
abbrev flatS (xs : List Slot) : List Value := flat Slot.cells xs
theorem cells_len (x : Slot) : x.cells.length = 5 := rfl
theorem flatS_len (xs : List Slot) : (flatS xs).length = xs.length * 5 := flat_len cells_len xs
theorem flatS_get (xs : List Slot) (i c : Nat) (hc : c < 5) : (flatS xs)[i * 5 + c]? = (xs[i]?).bind fun x => x.cells[c]? := flat_get cells_len xs i c hc
instance : Inhabited Slot := ⟨noSlot⟩
def lessS (x y : Slot) : Int := cmpK x.p x.v x.c y.p y.v y.c
theorem lessS_lt (x y : Slot) : ltOf lessS x y = befK x.p x.v x.c y.p y.v y.c := by unfold ltOf lessS; exact cmpK_lt ..
theorem lessS_swo : SWO (ltOf lessS) where
  irrefl x := by rw [lessS_lt]; exact befK_false.2 (by omega)
  trans x y z h1 h2 := by
    rw [lessS_lt] at *
    have h1 := befK_iff.1 h1
    have h2 := befK_iff.1 h2
    exact befK_iff.2 (by omega)
  ntrans x y z h1 h2 := by
    rw [lessS_lt] at *
    have h1 := befK_false.1 h1
    have h2 := befK_false.1 h2
    exact befK_false.2 (by omega)
/-- What only lays new blocks, and draws. -/
theorem GR.grow {w w' : World} (h : Step No w w') (hd : w.drawn ≤ w'.drawn) : ∃ q os, w' = grow (w.drewN q) os := by
  refine ⟨w'.drawn - w.drawn, w'.heap.extract w.heap.size w'.heap.size, ?_⟩
  obtain ⟨h1, h2, h3, h4, h5⟩ := h
  obtain ⟨hp, tp, dr, os, out⟩ := w
  obtain ⟨hp', tp', dr', os', out'⟩ := w'
  simp only at h1 h2 h3 h4 h5 hd
  subst h1; subst h2; subst h3
  unfold Go.Sort.grow World.drewN
  simp only [World.mk.injEq, true_and, and_true]
  refine ⟨?_, by omega⟩
  apply Array.ext_getElem?
  intro i
  rw [Array.getElem?_append]
  split
  · rename_i hi; exact h5 i hi id
  · rename_i hi
    rw [Array.getElem?_extract]
    split
    · rename_i hj; congr 1; omega
    · rename_i hj; exact Array.getElem?_eq_none (by omega)
theorem sort_lays (blk off size : Nat) (w : World) : CmpLays Tryz.prog 83 #[] Slot.cells 5 lessS blk off size w := by
  intro m os dk hdk x y
  refine Calls.mono (less_any x y _) ?_
  rintro e w' ⟨v, rfl, rfl, hs, hd⟩
  exact ⟨rfl, GR.grow hs hd⟩
theorem sort_none (A : Option Addr) (c : Nat) (w : World) : CV Tryz.prog 82 #[.slice A 0 c, .func (.func 83) #[] #[]] w fun v w1 => v = .tuple #[] ∧ w1 = w := by
  have h := AnyF.slices_SortFunc_none (P := Tryz.prog) (ρ := Tryz.sortSlot_ren) Tryz.sortSlot A c (.func (.func 83) #[] #[]) w
  refine Calls.mono h ?_
  rintro e w' ⟨rfl, rfl⟩
  exact ⟨_, rfl, rfl, rfl⟩
theorem sort_own {w : World} {g n c : Nat} {cur : Array Value} {xs : List Slot} {e : TypeId} (ho : Own w g cur e) (hn : xs.length = n) (hsz : n * 5 ≤ cur.size) (ht : cur.toList.take (n * 5) = flatS xs) (hm : n ≤ 1000) :
    CV Tryz.prog 82 #[.slice (some ⟨g, 0, none⟩) n c, .func (.func 83) #[] #[]] w fun v w1 => v = .tuple #[] ∧ ∃ ys cur', ys.Perm xs ∧ (∀ i j, i < j → j < n → ∀ x y, ys[i]? = some x → ys[j]? = some y → befK y.p y.v y.c x.p x.v x.c = false) ∧ Own w1 g cur' e ∧ cur'.size = cur.size ∧ cur'.toList.take (n * 5) = flatS ys ∧ Step (Just g) w w1 := by
  have eg : ∀ args w, (callFunc 83 args).run Tryz.prog w = .ok (.enter 83 args) w := fun args w => Tryz.call83 args w
  have hH : HoldsK Slot.cells 5 w g 0 xs.toArray := by
    intro j hj
    rw [size_flatK] at hj
    have hj' : j < n * 5 := by simpa [hn] using hj
    rw [get_flatK _ _ _ _ hj]
    refine ⟨?_, ?_⟩
    · rw [Nat.zero_add, ho.cell]
      have h1 : cur.toList[j]? = (flatS xs)[j]? := by rw [← ht, List.getElem?_take, if_pos hj']
      rw [Array.getElem?_toList] at h1
      have h2 := flatS_get xs (j / 5) (j % 5) (Nat.mod_lt _ (by decide))
      rw [show j / 5 * 5 + j % 5 = j by omega] at h2
      rw [h1, h2]
      have hi : j / 5 < xs.length := by omega
      rw [List.getElem?_eq_getElem hi]
      simp only [Option.bind_some, id]
      have e1 : xs.toArray[j / 5]! = xs[j / 5] := by simp [hi]
      rw [e1]
      have h5 : j % 5 < xs[j / 5].cells.length := by rw [cells_len]; exact Nat.mod_lt _ (by decide)
      rw [List.getElem?_eq_getElem h5, getElem!_pos xs[j / 5].cells (j % 5) h5]
    · unfold World.frozen?
      rw [show w.heap[(⟨g, 0 + j, none⟩ : Addr).block]? = some (.cells cur e (0, 0)) from ho]
      simp
  have h := AnyQ.slices_SortFunc (P := Tryz.prog) (ρ := Tryz.sortSlot_ren) Tryz.sortSlot 5 Tryz.isAgg79 Tryz.sizeOf79 Slot.cells cells_len (fun x v hv => by simp [Slot.cells] at hv; rcases hv with rfl | rfl | rfl | rfl | rfl <;> rfl) lessS lessS_swo 83 #[] g 0 c xs.toArray w eg (sort_lays g 0 _ w) hH ho.lt (by simp; omega)
  rw [show xs.toArray.size = n by simpa using hn] at h
  refine Calls.mono h ?_
  rintro e' w' ⟨rfl, d', m, os, hp, hs, rfl⟩
  refine ⟨_, rfl, rfl, d'.toList, putCells id 0 (flatK Slot.cells 5 d') cur, ?_, ?_, ?_, ?_, ?_, ?_⟩
  · obtain ⟨p1, _, p3⟩ := hp
    have hd : d'.size = n := by rw [p1]; simpa using hn
    have e1 : d'.extract 0 n = d' := by rw [← hd]; simp
    have e2 : xs.toArray.extract 0 n = xs.toArray := by rw [← hn]; simp
    rw [e1, e2] at p3
    simpa using p3
  · intro i j hij hjn x y hx hy
    have h1 := hs i j (Nat.zero_le _) hij hjn
    have hd : d'.size = n := by rw [hp.1]; simpa using hn
    have ex : d'[i]! = x := by
      rw [Array.getElem?_toList] at hx
      rw [getElem!_pos _ _ (by omega)]
      rw [Array.getElem?_eq_getElem (by omega)] at hx
      exact Option.some.inj hx
    have ey : d'[j]! = y := by
      rw [Array.getElem?_toList] at hy
      rw [getElem!_pos _ _ (by omega)]
      rw [Array.getElem?_eq_getElem (by omega)] at hy
      exact Option.some.inj hy
    rw [ex, ey, lessS_lt] at h1
    exact h1
  · show (grow (putRow id (Sort.ahead w m) g 0 (flatK Slot.cells 5 d')) os).heap[g]? = _
    unfold Go.Sort.grow putRow mapBlock Sort.ahead
    simp only
    rw [Array.getElem?_append_left (by simpa using ho.lt), Array.getElem?_modify, if_pos rfl, show w.heap[g]? = some (.cells cur e (0, 0)) from ho]
    rfl
  · simp [putCells]
  · have hd : d'.size = n := by rw [hp.1]; simpa using hn
    apply List.ext_getElem?
    intro q
    rw [List.getElem?_take]
    by_cases hq : q < n * 5
    · rw [if_pos hq]
      have h2 := flatS_get d'.toList (q / 5) (q % 5) (Nat.mod_lt _ (by decide))
      rw [show q / 5 * 5 + q % 5 = q by omega] at h2
      rw [h2, Array.getElem?_toList, Array.getElem?_toList]
      unfold putCells
      rw [Array.getElem?_mapIdx, Array.getElem?_eq_getElem (by omega)]
      simp only [Option.map_some, id, Nat.sub_zero, Nat.zero_add]
      rw [if_pos ⟨Nat.zero_le _, by rw [size_flatK, hd]; exact hq⟩, get_flatK _ _ _ _ (by rw [hd]; exact hq)]
      have hi : q / 5 < d'.size := by omega
      rw [Array.getElem?_eq_getElem hi]
      simp only [Option.bind_some]
      rw [getElem!_pos d' (q / 5) hi]
      have h5 : q % 5 < d'[q / 5].cells.length := by rw [cells_len]; exact Nat.mod_lt _ (by decide)
      rw [List.getElem?_eq_getElem h5, getElem!_pos d'[q / 5].cells (q % 5) h5]
    · rw [if_neg hq]
      exact (List.getElem?_eq_none (by rw [flatS_len]; simp [hd]; omega)).symm
  · show Step (Just g) w (grow (putRow id (Sort.ahead w m) g 0 (flatK Slot.cells 5 d')) os)
    unfold Go.Sort.grow putRow mapBlock Sort.ahead
    refine ⟨rfl, rfl, rfl, by simp, fun k hk hne => ?_⟩
    simp only
    rw [Array.getElem?_append_left (by simpa using hk), Array.getElem?_modify, if_neg (fun e1 => hne e1.symm)]
end Go.Proofs.YthchmlidobgkoaaGreat
end

section
/- Blocks apart by the types of their elements. -/
set_option linter.unusedVariables false
set_option linter.unusedSimpArgs false
namespace Go.Vc
open Go.RowKit
def TyB (w : World) (e : TypeId) (k : Nat) : Prop := ∃ c fr, w.heap[k]? = some (.cells c e fr)
/-- Only blocks of one type, from a base on, may have been turned. -/
def StepT (e : TypeId) (base : Nat) (w w' : World) : Prop := Step (fun k => base ≤ k ∧ TyB w e k) w w'
section
variable {F : Nat → Prop} {w w' w'' w0 : World} {B b base base' n n' c c' sz : Nat} {e e' : TypeId} {A : Option Addr} {xs ys : List Value} {P : Program} {cs : Array Value}
theorem TyB.ne {i : Nat} (h : TyB w e i) (ho : Own w b cs e') (hne : e ≠ e') : ¬ i = b := by
  rintro rfl
  obtain ⟨c, fr, h⟩ := h
  rw [ho] at h
  simp only [Option.some.injEq, Obj.cells.injEq] at h
  exact hne h.2.1.symm
theorem RwS.tyB (h : RwS w sz base e A n c xs) {i : Nat} (hi : ownB A i) : TyB w e i := by
  obtain ⟨a, rfl, rfl⟩ := hi
  rcases h.2 with ⟨hv, _⟩ | ⟨g, cap, cur, hv, _, hg, _⟩
  · cases hv
  · cases hv; exact ⟨_, _, hg⟩
theorem StepT.refl (e : TypeId) (base : Nat) (w : World) : StepT e base w w := Step.refl _ _
theorem StepT.size (h : StepT e base w w') : w.heap.size ≤ w'.heap.size := Step.size h
theorem StepT.trans (h : StepT e base w w') (k : StepT e base w' w'') : StepT e base w w'' :=
  ⟨k.os.trans h.os, k.tape.trans h.tape, k.output.trans h.output, Nat.le_trans h.size k.size, fun i hi hF => by
    have h1 := Step.block h i hi hF
    refine (Step.block k i (Nat.lt_of_lt_of_le hi h.size) fun ⟨h2, c, fr, h3⟩ => hF ⟨h2, c, fr, ?_⟩).trans h1
    rw [← h1]; exact h3⟩
theorem StepT.no (h : StepT e base w w') (k : Step No w' w'') : StepT e base w w'' := Step.trans h k.weak
/-- A step at new blocks. -/
theorem StepT.new (h : StepT e base w w') (k : Step F w' w'') (hF : ∀ i, F i → w.heap.size ≤ i) : StepT e base w w'' :=
  Step.transNew h k fun i hi hG => absurd (hF i hG) (by omega)
theorem StepT.low (h : StepT e base w w') (hb : base' ≤ base) : StepT e base' w w' := Step.mono h fun i hi => ⟨by omega, hi.2⟩
theorem StepT.old (h : StepT e base w w') (hb : w.heap.size ≤ base) : Step No w w' := ⟨h.os, h.tape, h.output, h.size, fun i hi _ => Step.block h i hi fun hF => by omega⟩
/-- All of a row lies below a bound. -/
def UbA (A : Option Addr) (H : Nat) : Prop := ∀ k, ownB A k → k < H
theorem RwS.ub (h : RwS w sz base e A n c xs) : UbA A w.heap.size := fun k hk => (h.lt k hk).2
theorem Rw.ub (h : Rw w base e A n c xs) : UbA A w.heap.size := RwS.ub h
theorem RwS.stepU {H : Nat} (h : RwS w sz base e A n c xs) (hu : UbA A H) (hs : Step F w w') (hF : ∀ k, base ≤ k → k < H → ¬ F k) : RwS w' sz base e A n c xs := h.keepO hs fun k hk => hF k (h.lt k hk).1 (hu k hk)
theorem Rw.stepU {H : Nat} (h : Rw w base e A n c xs) (hu : UbA A H) (hs : Step F w w') (hF : ∀ k, base ≤ k → k < H → ¬ F k) : Rw w' base e A n c xs := RwS.stepU h hu hs hF
end
section
variable {r : Option Nat} {n : Nat} {ds : List Deferred} {P : Program} {ops : Array Oper} {Q : Exit → Act → World → Prop} {tbl : List (List Nat)} {m : Nat} {l : List (Nat × Value)} {R : World → World → Prop} {ch : List Nat} {w : World} {i : Nat}
end
end Go.Vc
end

section
/- The calculus: blocks' types, rows whose block is told. -/
set_option linter.unusedVariables false
set_option linter.unusedSimpArgs false
namespace Go.Vc
open Go.RowKit
theorem RwS.open {w : World} {base n c sz : Nat} {e : TypeId} {A : Option Addr} {xs : List Value} (h : RwS w sz base e A n c xs) (h0 : 0 < n) : ∃ g cur, A = some ⟨g, 0, none⟩ ∧ base ≤ g ∧ g < w.heap.size ∧ Own w g cur e ∧ cur.size = c * sz ∧ n ≤ c ∧ c ≤ maxLen ∧ cur.toList.take (n * sz) = xs := by
  rcases h.2 with ⟨hv, hn⟩ | ⟨g, cap, cur, hv, hb', hg, hc, hm, hs, ht⟩
  · omega
  · cases hv
    exact ⟨g, cur, rfl, hb', (Array.getElem?_eq_some_iff.1 hg).1, hg, hs, hc, hm, ht⟩
theorem RwS.of_own {w : World} {base n c sz g : Nat} {e : TypeId} {cur : Array Value} {xs : List Value} (ho : Own w g cur e) (hb : base ≤ g) (hs : cur.size = c * sz) (hn : n ≤ c) (hm : c ≤ maxLen) (ht : cur.toList.take (n * sz) = xs) : RwS w sz base e (some ⟨g, 0, none⟩) n c xs := by
  refine ⟨?_, .inr ⟨g, c, cur, rfl, hb, ho, hn, hm, hs, ht⟩⟩
  rw [← ht, List.length_take, Array.length_toList, hs]
  exact Nat.min_eq_left (Nat.mul_le_mul_right sz hn)
/-! ### A row whose block is told -/
structure RowE (w : World) (rb : Nat) (T : TypeId) (xs : List Value) : Prop where
  sl : Sl2 w rb (rb + 1) (some ⟨rb, 0, none⟩) xs
  ty : TyB w T rb
section
variable {w w' : World} {F : Nat → Prop}
theorem TyB.lt {T : TypeId} {k : Nat} (h : TyB w T k) : k < w.heap.size := by obtain ⟨c, fr, h⟩ := h; exact (Array.getElem?_eq_some_iff.1 h).1
theorem TyB.step {T : TypeId} {k : Nat} (h : TyB w T k) (hs : Step F w w') (hF : ¬ F k) : TyB w' T k := by have hl := h.lt; obtain ⟨c, fr, h⟩ := h; exact ⟨c, fr, (hs.block k hl hF).trans h⟩
theorem TyB.two {T T' : TypeId} {k : Nat} (h : TyB w T k) (h' : TyB w T' k) : T = T' := by
  obtain ⟨c, fr, h⟩ := h
  obtain ⟨c', fr', h'⟩ := h'
  rw [h] at h'
  simp only [Option.some.injEq, Obj.cells.injEq] at h'
  exact h'.2.1
theorem Own.tyB {b : Nat} {cs : Array Value} {T : TypeId} (h : Own w b cs T) : TyB w T b := ⟨cs, (0, 0), h⟩
theorem RowE.step {rb : Nat} {T : TypeId} {xs : List Value} (h : RowE w rb T xs) (hs : Step F w w') (hF : ¬ F rb) : RowE w' rb T xs :=
  ⟨h.sl.step hs fun k h1 h2 hk => hF (by rwa [show k = rb by omega] at hk), h.ty.step hs hF⟩
theorem RowE.no {rb : Nat} {T : TypeId} {xs : List Value} (h : RowE w rb T xs) (hs : Step No w w') : RowE w' rb T xs := h.step hs id
theorem RowE.lt {rb : Nat} {T : TypeId} {xs : List Value} (h : RowE w rb T xs) : rb < w.heap.size := h.ty.lt
theorem RowE.of_rw {sz base n c : Nat} {e : TypeId} {A : Option Addr} {xs : List Value} (h : RwS w sz base e A n c xs) (hn : 0 < n) : ∃ rb, A = some ⟨rb, 0, none⟩ ∧ base ≤ rb ∧ RowE w rb e xs := by
  rcases h.2 with ⟨hv, h0⟩ | ⟨g, cap, cur, hv, hb, hg, hr⟩
  · omega
  · cases hv
    refine ⟨g, rfl, hb, ⟨fun h0 => ?_, ⟨_, _, hg⟩⟩⟩
    obtain ⟨b, o, he, hb1, hb2, hc⟩ := (RwS.sl2 h) h0
    simp only [Option.some.injEq, Addr.mk.injEq] at he
    obtain ⟨rfl, rfl, _⟩ := he
    exact ⟨g, 0, rfl, Nat.le_refl _, Nat.lt_succ_self _, hc⟩

end
end Go.Vc
end

section
/- Package conns: what is told of a table is its list, in order. -/
set_option linter.unusedVariables false
set_option linter.unusedSimpArgs false
namespace Go.Proofs.YthchmlidobgkoaaGreat
open Go.Vc Go.RowKit
def usedK (s : Nat → Slot) (k : Nat) : List Slot := ((List.range k).filter fun i => (s i).used).map s
theorem usedK_yes {s : Nat → Slot} {k : Nat} (h : (s k).used = true) : usedK s (k + 1) = usedK s k ++ [s k] := by
  unfold usedK
  rw [List.range_succ, List.filter_append, List.map_append]
  simp [h]
theorem usedK_no {s : Nat → Slot} {k : Nat} (h : (s k).used = false) : usedK s (k + 1) = usedK s k := by
  unfold usedK
  rw [List.range_succ, List.filter_append, List.map_append]
  simp [h]
theorem usedK_len (s : Nat → Slot) (k : Nat) : (usedK s k).length ≤ k := by
  unfold usedK
  rw [List.length_map]
  exact Nat.le_trans (List.length_filter_le _ _) (by simp)
theorem cells_one (x : Slot) : ∀ u ∈ x.cells, oneC u = true := by
  intro u hu
  simp only [Slot.cells, List.mem_cons, List.mem_nil_iff, or_false] at hu
  rcases hu with rfl | rfl | rfl | rfl | rfl <;> rfl
theorem sort_row {w : World} {base n c : Nat} {A : Option Addr} {xs : List Slot} {e : TypeId} (hr : RwS w 5 base e A n c (flat Slot.cells xs)) (hn : xs.length = n) (hm : n ≤ 1000) :
    CV Tryz.prog 82 #[.slice A n c, .func (.func 83) #[] #[]] w fun v w1 => v = .tuple #[] ∧ ∃ ys, ys.Perm xs ∧ (∀ i j, i < j → j < n → ∀ x y, ys[i]? = some x → ys[j]? = some y → befK y.p y.v y.c x.p x.v x.c = false) ∧ RwS w1 5 base e A n c (flat Slot.cells ys) ∧ Step (fun k => base ≤ k) w w1 := by
  by_cases h0 : n = 0
  · subst h0
    have : xs = [] := List.eq_nil_of_length_eq_zero hn
    subst this
    refine CV.mono (sort_none A c w) ?_
    rintro v w1 ⟨rfl, rfl⟩
    exact ⟨rfl, [], List.Perm.refl _, fun i j h1 h2 => by omega, hr, Step.refl _ _⟩
  · obtain ⟨g, cur, rfl, hb, hg, ho, hs, hc, hmx, ht⟩ := hr.open (by omega)
    refine CV.mono (sort_own (c := c) ho hn (by rw [hs]; exact Nat.mul_le_mul_right 5 hc) ht hm) ?_
    rintro v w1 ⟨rfl, ys, cur', h1, h2, h3, h4, h5, h6⟩
    exact ⟨rfl, ys, h1, h2, RwS.of_own h3 hb (by rw [h4, hs]) hc hmx h5, h6.mono fun i (hi : i = g) => by rw [hi]; exact hb⟩
/-- What is used, sorted, is the list. -/
theorem sorted_is {s : Nat → Slot} {len room : Int} {L : List Ent} (hT : TabI s len room L) {ys : List Slot} (hp : ys.Perm (usedK s 128)) (hs : ∀ i j, i < j → j < (usedK s 128).length → ∀ x y, ys[i]? = some x → ys[j]? = some y → befK y.p y.v y.c x.p x.v x.c = false) : ys = L.map Ent.slot := by
  have hu : ∀ x ∈ ys, x.used = true ∧ ∃ i, i < 128 ∧ s i = x := by
    intro x hx
    obtain ⟨i, hi, rfl⟩ := List.mem_map.1 (hp.mem_iff.1 hx)
    have := List.mem_filter.1 hi
    exact ⟨this.2, i, List.mem_range.1 this.1, rfl⟩
  have hlen := hp.length_eq
  -- distinct keys
  have hnd : (usedK s 128).Pairwise fun x y => ¬ (x.p = y.p ∧ x.v = y.v ∧ x.c = y.c) := by
    unfold usedK
    rw [List.pairwise_map]
    refine List.Pairwise.imp_of_mem ?_ (List.nodup_iff_pairwise_ne.1 (List.Pairwise.filter _ List.nodup_range))
    intro i j hi hj hne ⟨h1, h2, h3⟩
    have hi := List.mem_filter.1 hi
    have hj := List.mem_filter.1 hj
    exact hne (hT.inv.apart i j (List.mem_range.1 hi.1) (List.mem_range.1 hj.1) hi.2 hj.2 h1 h2 h3)
  have hnd2 : ys.Pairwise fun x y => ¬ (x.p = y.p ∧ x.v = y.v ∧ x.c = y.c) := (hp.symm.pairwise_iff (fun h ⟨h1, h2, h3⟩ => h ⟨h1.symm, h2.symm, h3.symm⟩)).1 hnd
  have hsrt : SrtE (ys.map Slot.ent) := by
    unfold SrtE
    rw [List.pairwise_map]
    rw [List.pairwise_iff_getElem] at hnd2 ⊢
    intro i j hi hj hij
    have h1 := hs i j hij (by omega) ys[i] ys[j] (List.getElem?_eq_getElem hi) (List.getElem?_eq_getElem hj)
    have h2 := hnd2 i j hi hj hij
    exact befE_total (x := ys[j].ent) (y := ys[i].ent) (fun ⟨a, b, c⟩ => h2 ⟨a.symm, b.symm, c.symm⟩) h1
  have hM : ys.map Slot.ent = L := by
    refine srt_ext hsrt hT.srt fun x => ?_
    rw [hT.mem]
    constructor
    · intro hx
      obtain ⟨y, hy, rfl⟩ := List.mem_map.1 hx
      obtain ⟨h1, i, hi, h2⟩ := hu y hy
      rw [slot_ent h1]
      exact ⟨h1, i, hi, h2⟩
    · rintro ⟨h1, i, hi, h2⟩
      refine List.mem_map.2 ⟨x.slot, hp.mem_iff.2 (List.mem_map.2 ⟨i, List.mem_filter.2 ⟨List.mem_range.2 hi, by rw [h2]; rfl⟩, h2⟩), rfl⟩
  rw [← hM, List.map_map]
  conv => lhs; rw [← List.map_id ys]
  refine List.map_congr_left fun x hx => ?_
  exact (slot_ent (hu x hx).1).symm
/-- What is handed on, entry by entry. -/
def entV (L : List Ent) : List (Array Value) := L.map fun x => #[.agg #[.int .i64 x.p, .int .i64 x.v, .int .i64 x.c], .int .i64 x.n]
theorem entV_get {L : List Ent} {k : Nat} {x : Ent} (h : L[k]? = some x) : (entV L)[k]? = some #[.agg #[.int .i64 x.p, .int .i64 x.v, .int .i64 x.c], .int .i64 x.n] := by
  unfold entV; rw [List.getElem?_map, h]; rfl
theorem entV_inv {L : List Ent} {k : Nat} {args : Array Value} (h : (entV L)[k]? = some args) : ∃ x, L[k]? = some x ∧ args = #[.agg #[.int .i64 x.p, .int .i64 x.v, .int .i64 x.c], .int .i64 x.n] := by
  unfold entV at h
  rw [List.getElem?_map] at h
  obtain ⟨x, h1, h2⟩ := Option.map_eq_some_iff.1 h
  exact ⟨x, h1, h2.symm⟩
theorem entV_len (L : List Ent) : (entV L).length = L.length := by simp [entV]
theorem encT_slots (s : Nat → Slot) (len room : Int) (k : Nat) (hk : k < 128) : ((encT s len room).extract 0 640).extract (k * 5) (k * 5 + 5) = (s k).cells.toArray := by
  rw [← encT_all s len room k hk]
  apply Array.ext_getElem?
  intro j
  simp only [Array.getElem?_extract, Array.size_extract, encT_size]
  by_cases hj : j < 5
  · rw [if_pos (by omega), if_pos (by omega), if_pos (by omega)]
    congr 1; omega
  · rw [if_neg (by omega), if_neg (by omega)]
theorem Loads.slots {w : World} {b : Nat} {s : Nat → Slot} {len room : Int} {T : TypeId} {P : Program} {t : TypeId} (ho : Own w b (encT s len room) T) (ht : aggB P t = some 640) : Loads P t w ⟨b, 0, none⟩ (.agg ((encT s len room).extract 0 640)) := by
  refine Loads.cells ht _ (by simp [encT_size]) fun j hj => ?_
  rw [add_none, ho.cell, Nat.zero_add, Array.getElem?_extract, encT_size, if_pos (by omega), Nat.zero_add]
end Go.Proofs.YthchmlidobgkoaaGreat
end

section
/- Layer 9: All. -/
set_option linter.unusedVariables false
set_option linter.unusedSimpArgs false
set_option maxRecDepth 100000
set_option maxHeartbeats 4000000
namespace Go.Proofs.YthchmlidobgkoaaGreat
open Go.Vc Go.RowKit
theorem TCndaa {P : Prop} (h : P := by rw [wrap_i64 _ (by omega) (by omega)]; omega) : P := h

theorem all1_any (Lb B b : Nat) (s : Nat → Slot) (len room : Int) (LL : List Ent) (hT : TabI s len room LL) (w : World) (J Jx : Nat → Nat → World → Prop) (hJn : ∀ M k W W', J M k W → Step No W W' → J M k W') (hB : Own w B #[.pointer (some ⟨b, 0, none⟩)] 45) (ht : Own w b (encT s len room) 82) (h0 : ∀ M W, w.heap.size ≤ M → M ≤ W.heap.size → Step No w W → J M 0 W) (hy : ∀ M k W args, w.heap.size ≤ M → M ≤ W.heap.size → (entV LL)[k]? = some args → J M k W → YV Tryz.prog Lb args W fun v W' => Step (fun i => i < w.heap.size ∨ M ≤ i) W W' ∧ (v = .bool true ∧ J M (k + 1) W' ∨ v = .bool false ∧ Jx M (k + 1) W')) :
  CV Tryz.prog 81 #[.func (.yield Lb) #[] #[], .pointer (some ⟨B, 0, none⟩)] w (fun _ w1 => ∃ M, w.heap.size ≤ M ∧ (J M (entV LL).length w1 ∨ ∃ k, k ≤ (entV LL).length ∧ Jx M k w1)) := by
 have hS : Step No w w := Step.refl _ _
 refine CV_enter Tryz.f81 _ 40 [(0, .func (.yield Lb) #[] #[]), (1, .pointer (some ⟨B, 0, none⟩))] Tryz.func81 rfl rfl (by kernel_rfl) rfl ?_
 refine VC_seq ?_
 refine VC_seq ?_
 refine VC_region ?_
 refine VL_load (d := 8) (t := 45) (a := ⟨B, 0, none⟩) (v := .pointer (some ⟨b, 0, none⟩)) (by kernel_rfl) (by kernel_rfl) (Loads.own1 hB (by kernel_rfl) (by rfl)) ?_
 refine VL_pure 2 [0, 1, 9] [(0, .func (.yield Lb) #[] #[]), (1, .pointer (some ⟨B, 0, none⟩)), (9, .bool false)] (by kernel_rfl) rfl ?_
 refine VL_end (by kernel_rfl) ?_
 refine VQ_next ?_
 refine VC_false (by kernel_rfl) ?_
 refine VC_skip ?_
 refine VQ_next ?_
 refine VC_seq ?_
 refine VC_region ?_
 refine VL_pure 1 [0, 1, 3] [(0, .func (.yield Lb) #[] #[]), (1, .pointer (some ⟨B, 0, none⟩)), (3, .slice none 0 0)] (by kernel_rfl) rfl ?_
 refine VL_end (by kernel_rfl) ?_
 refine VQ_next ?_
 refine VC_seq ?_
 refine VC_seq ?_
 refine VC_region ?_
 refine VL_load (d := 10) (t := 45) (a := ⟨B, 0, none⟩) (v := .pointer (some ⟨b, 0, none⟩)) (by kernel_rfl) (by kernel_rfl) (Loads.own1 hB (by kernel_rfl) (by rfl)) ?_
 refine VL_pure 3 [0, 3, 12] [(0, .func (.yield Lb) #[] #[]), (3, .slice none 0 0), (12, .pointer (some ⟨b, 0, none⟩))] (by kernel_rfl) rfl ?_
 refine VL_load (d := 13) (t := 80) (a := ⟨b, 0, none⟩) (v := .agg ((encT s len room).extract 0 640)) (by kernel_rfl) (by kernel_rfl) (Loads.slots ht (by kernel_rfl)) ?_
 refine VL_pure 5 [0, 3, 13, 14] [(0, .func (.yield Lb) #[] #[]), (3, .slice none 0 0), (13, .agg ((encT s len room).extract 0 640)), (14, .int .i64 0)] (by kernel_rfl) rfl ?_
 refine VL_end (by kernel_rfl) ?_
 refine VQ_next ?_
 refine VC_block ?_
 refine VC_loop (σ := Nat × (Option Addr) × Nat × Nat) (fun σs => [(0, .func (.yield Lb) #[] #[]), (13, .agg ((encT s len room).extract 0 640)), (14, .int .i64 ((σs.1 : Nat) : Int)), (3, .slice σs.2.1 σs.2.2.1 σs.2.2.2)]) (fun σs wr => σs.1 ≤ 128 ∧ (usedK s σs.1).length = σs.2.2.1 ∧ RwS wr 5 w.heap.size 79 σs.2.1 σs.2.2.1 σs.2.2.2 (flat Slot.cells (usedK s σs.1)) ∧ Step No w wr) (fun σs wr => 128 - σs.1) ⟨0, none, 0, 0⟩ ⟨rfl, rfl, rfl, rfl, trivial⟩ ?_ ?_
 ·exact ⟨by omega, rfl, RwS.nil _ _ _ _, hS⟩
 rintro ⟨k, A, n, c⟩ wr ⟨hk, hn, hr, hS⟩
 try dsimp only at hk hn hr hS ⊢
 have hu9 := usedK_len s k
 have hzS := hS.size
 refine VC_seq ?_
 refine VC_region ?_
 refine VL_pure 1 [0, 13, 14, 3, 15] [(0, .func (.yield Lb) #[] #[]), (13, .agg ((encT s len room).extract 0 640)), (14, .int .i64 ((k : Nat) : Int)), (3, .slice A n c), (15, .bool (decide (((k : Nat) : Int) < 128)))] (by kernel_rfl) rfl ?_
 refine VL_end (by kernel_rfl) ?_
 refine VQ_next ?_
 refine VC_seq ?_
 refine VC_dec (((k : Nat) : Int) < 128) (by kernel_rfl) (fun h1 => ?_) (fun h1 => ?_)
 ·refine VC_skip ?_
  refine VQ_next ?_
  refine VC_seq ?_
  refine VC_block ?_
  refine VC_seq ?_
  have hub9 := hr.ub
  refine VC_region ?_
  refine VL_ixA (d := 16) (e := 79) (len := 128) (sz := 5) (by kernel_rfl) (by kernel_rfl) (by kernel_rfl) k rfl (by omega) _ (encT_slots s len room k (by omega)) ?_
  refine VL_keep [0, 13, 14, 3, 15, 16] [(0, .func (.yield Lb) #[] #[]), (13, .agg ((encT s len room).extract 0 640)), (14, .int .i64 ((k : Nat) : Int)), (3, .slice A n c), (15, .bool (decide (((k : Nat) : Int) < 128))), (16, .agg #[.int .i64 ((s k).p), .int .i64 ((s k).v), .int .i64 ((s k).c), .int .i64 ((s k).n), .bool ((s k).used)])] (by kernel_rfl) ?_
  refine VL_box (d := 5) (t := 79) (c := #[.int .i64 0, .int .i64 0, .int .i64 0, .int .i64 0, .bool false]) (by kernel_rfl) (by kernel_rfl) ?_
  intro b1 w1 hn1
  replace hS := Step.trans hS (hn1.step No)
  replace hr := hr.no (hn1.step No)
  have ho1 := hn1.own
  have hzhn1 := hn1.size
  have hqhn1 := hn1.eqb
  refine VL_store (b := b1) (o := 0) (vs := [.int .i64 ((s k).p), .int .i64 ((s k).v), .int .i64 ((s k).c), .int .i64 ((s k).n), .bool ((s k).used)]) (by kernel_rfl) (by kernel_rfl) ho1 (Nat.le_of_ble_eq_true (by kernel_rfl)) ?_
  intro w2 hw1
  replace hS := Step.transNew hS hw1.step (fun _ _ _ => by omega)
  replace hr := hr.stepU hub9 hw1.step (fun k hk1 hk2 (hF : k = b1) => by omega)
  have ho2 : Own w2 b1 #[.int .i64 ((s k).p), .int .i64 ((s k).v), .int .i64 ((s k).c), .int .i64 ((s k).n), .bool ((s k).used)] 79 := Own.cast hw1.own (by kernel_rfl)
  refine VL_end (by kernel_rfl) ?_
  refine VQ_next ?_
  refine VC_seq ?_
  refine VC_region ?_
  refine VL_pure 1 [0, 13, 14, 3, 5, 17] [(0, .func (.yield Lb) #[] #[]), (13, .agg ((encT s len room).extract 0 640)), (14, .int .i64 ((k : Nat) : Int)), (3, .slice A n c), (5, .pointer (some ⟨b1, 0, none⟩)), (17, .pointer (some ⟨b1, 4, none⟩))] (by kernel_rfl) rfl ?_
  refine VL_load (d := 18) (t := 4) (a := ⟨b1, 4, none⟩) (v := .bool ((s k).used)) (by kernel_rfl) (by kernel_rfl) (Loads.own1 ho2 (by kernel_rfl) (by rfl)) ?_
  refine VL_end (by kernel_rfl) ?_
  refine VQ_next ?_
  refine VC_cond ((s k).used) (by kernel_rfl) (fun h2 => ?_) (fun h2 => ?_)
  ·try simp only [Bool.and_eq_true, Bool.or_eq_true, decide_eq_true_eq, Bool.not_eq_true', decide_eq_false_iff_not, Bool.and_eq_false_iff, Bool.or_eq_false_iff, beq_iff_eq, bne_iff_ne, beq_eq_false_iff_ne, bne_eq_false_iff_eq, Bool.not_eq_eq_eq_not, Bool.not_true, Bool.not_false] at h2
   refine VC_region ?_
   refine VL_pure 1 [0, 13, 14, 5, 19] [(0, .func (.yield Lb) #[] #[]), (13, .agg ((encT s len room).extract 0 640)), (14, .int .i64 ((k : Nat) : Int)), (5, .pointer (some ⟨b1, 0, none⟩)), (19, .slice A n c)] (by kernel_rfl) rfl ?_
   refine VL_load (d := 20) (t := 79) (a := ⟨b1, 0, none⟩) (v := .agg #[.int .i64 ((s k).p), .int .i64 ((s k).v), .int .i64 ((s k).c), .int .i64 ((s k).n), .bool ((s k).used)]) (by kernel_rfl) (by kernel_rfl) (Loads.ownL ho2 (n := 5) (by kernel_rfl) (by kernel_rfl) (by kernel_rfl)) ?_
   refine VL_bs (d := 21) (e := 79) (c := #[.int .i64 ((s k).p), .int .i64 ((s k).v), .int .i64 ((s k).c), .int .i64 ((s k).n), .bool ((s k).used)]) (len := 1) (by kernel_rfl) (by kernel_rfl) ?_
   intro b2 w3 hn2
   replace hS := Step.trans hS (hn2.step No)
   replace hr := hr.no (hn2.step No)
   have ho3 := hn2.own
   have hzs3 := hS.size
   refine VL_appendZ (d := 22) (e := 79) (A := A) (m := n) (c := c) (A2 := (some ⟨b2, 0, none⟩)) (m2 := 1) (c2 := 1) (sz := 5) (bytes := 40) (by kernel_rfl) (by kernel_rfl) (by kernel_rfl) w.heap.size w3.heap.size (flat Slot.cells (usedK s k)) (flat Slot.cells [(s k)]) hr (by rw [flat_one, cells_len]) (Sl.mono (Sl.cast (Own.sl ho3 ho3.lt) (by first | rfl | simp [flat])) (by first | exact Nat.le_refl _ | omega)) (flat_one' cells_one _) (n + 1) (by omega) (by simp only [maxLen]; omega) (by omega) (by omega) ?_
   intro A1 c1 w4 hr1 hg1
   replace hr1 : RwS w4 5 w.heap.size 79 A1 (n + 1) c1 (flat Slot.cells ((usedK s k) ++ ([(s k)]))) := RwS.cast hr1 rfl (by simp only [flat_append, flat_one, List.append_assoc, List.nil_append, List.append_nil, show flat Slot.cells [] = [] from rfl])
   replace hg1 := Step.mono (G := fun k => w.heap.size ≤ k) hg1 (fun i hi => (RwS.lt hr i hi).1)
   replace hS := Step.transNew hS hg1 (fun i hi hG => by (try simp only at hG); omega)
   have hlhr1 : ((usedK s k) ++ ([(s k)])).length = n + 1 := by have hq9 := RwS.len hr1; rw [flat_len cells_len] at hq9; omega
   refine VL_pure 5 [0, 13, 14, 3] [(0, .func (.yield Lb) #[] #[]), (13, .agg ((encT s len room).extract 0 640)), (14, .int .i64 ((k : Nat) : Int)), (3, .slice A1 (n + 1) c1)] (by kernel_rfl) rfl ?_
   refine VL_end (by kernel_rfl) ?_
   refine VQ_block_normal ?_
   refine VQ_next ?_
   refine VC_region ?_
   refine VL_pure 1 [0, 13, 3, 23] [(0, .func (.yield Lb) #[] #[]), (13, .agg ((encT s len room).extract 0 640)), (3, .slice A1 (n + 1) c1), (23, .int .i64 (IntKind.wrap .i64 (((k : Nat) : Int) + 1)))] (by kernel_rfl) rfl ?_
   have he1 : IntKind.wrap .i64 (((k : Nat) : Int) + 1) = ((k + 1 : Nat) : Int) := TCndaa
   refine VL_eq [(0, .func (.yield Lb) #[] #[]), (13, .agg ((encT s len room).extract 0 640)), (3, .slice A1 (n + 1) c1), (23, .int .i64 ((k + 1 : Nat) : Int))] (by rw [he1]) ?_
   refine VL_pure 2 [0, 13, 3, 14] [(0, .func (.yield Lb) #[] #[]), (13, .agg ((encT s len room).extract 0 640)), (3, .slice A1 (n + 1) c1), (14, .int .i64 ((k + 1 : Nat) : Int))] (by kernel_rfl) rfl ?_
   refine VL_end (by kernel_rfl) ?_
   refine VQ_again ⟨k + 1, A1, n + 1, c1⟩ ⟨rfl, rfl, rfl, rfl, trivial⟩ ?_ ?_
   ·exact ⟨by omega, by rw [usedK_yes h2]; exact hlhr1, RwS.cast hr1 rfl (by rw [usedK_yes h2]), hS⟩
   ·(try dsimp only); omega
  ·try simp only [Bool.and_eq_true, Bool.or_eq_true, decide_eq_true_eq, Bool.not_eq_true', decide_eq_false_iff_not, Bool.and_eq_false_iff, Bool.or_eq_false_iff, beq_iff_eq, bne_iff_ne, beq_eq_false_iff_ne, bne_eq_false_iff_eq, Bool.not_eq_eq_eq_not, Bool.not_true, Bool.not_false] at h2
   refine VC_skip ?_
   refine VQ_block_normal ?_
   refine VQ_next ?_
   refine VC_region ?_
   refine VL_pure 1 [0, 13, 3, 23] [(0, .func (.yield Lb) #[] #[]), (13, .agg ((encT s len room).extract 0 640)), (3, .slice A n c), (23, .int .i64 (IntKind.wrap .i64 (((k : Nat) : Int) + 1)))] (by kernel_rfl) rfl ?_
   have he2 : IntKind.wrap .i64 (((k : Nat) : Int) + 1) = ((k + 1 : Nat) : Int) := TCndaa
   refine VL_eq [(0, .func (.yield Lb) #[] #[]), (13, .agg ((encT s len room).extract 0 640)), (3, .slice A n c), (23, .int .i64 ((k + 1 : Nat) : Int))] (by rw [he2]) ?_
   refine VL_pure 2 [0, 13, 3, 14] [(0, .func (.yield Lb) #[] #[]), (13, .agg ((encT s len room).extract 0 640)), (3, .slice A n c), (14, .int .i64 ((k + 1 : Nat) : Int))] (by kernel_rfl) rfl ?_
   refine VL_end (by kernel_rfl) ?_
   have hu8 : (s k).used = false := by simpa using h2
   refine VQ_again ⟨k + 1, A, n, c⟩ ⟨rfl, rfl, rfl, rfl, trivial⟩ ?_ ?_
   ·exact ⟨by omega, by rw [usedK_no hu8]; exact hn, RwS.cast hr rfl (by rw [usedK_no hu8]), hS⟩
   ·(try dsimp only); omega
 ·refine VC_exit ?_
  refine VQ_then_exit ?_
  refine VQ_then_exit ?_
  refine VQ_block_hit ?_
  refine VQ_next ?_
  refine VC_seq ?_
  have hk128 : k = 128 := by omega
  refine VC_region ?_
  refine VL_pure 1 [0, 3, 24] [(0, .func (.yield Lb) #[] #[]), (3, .slice A n c), (24, .slice A n c)] (by kernel_rfl) rfl ?_
  refine VL_call (d := 25) (f := 82) (by kernel_rfl) (by kernel_rfl) (by kernel_rfl) Tryz.call82 (sort_row hr hn (by have h9 := usedK_len s k; omega)) ?_
  rintro _ w5 ⟨rfl, ys, hys1, hys2, hr2, hc1⟩
  replace hS := Step.transNew hS hc1 (fun i hi hG => by (try simp only at hG); omega)
  have hlL := hys1.length_eq.trans hn
  have hys : ys = LL.map Ent.slot := sorted_is hT (by rw [← hk128]; exact hys1) (fun i j h1 h2 => hys2 i j h1 (by rw [← hk128, hn] at h2; exact h2))
  subst hys
  refine VL_end (by kernel_rfl) ?_
  refine VQ_next ?_
  refine VC_seq ?_
  refine VC_region ?_
  refine VL_pure 3 [0, 26, 27, 28] [(0, .func (.yield Lb) #[] #[]), (26, .slice A n c), (27, .int .i64 ((n : Nat) : Int)), (28, .int .i64 0)] (by kernel_rfl) rfl ?_
  refine VL_end (by kernel_rfl) ?_
  refine VQ_next ?_
  refine VC_block ?_
  obtain ⟨M, hMe⟩ : ∃ M, M = w5.heap.size := ⟨_, rfl⟩
  have hM0 : w.heap.size ≤ M := by rw [hMe]; exact hS.size
  have hJ : J M 0 w5 := h0 M _ hM0 (Nat.le_of_eq hMe) hS
  have hv2 : Sl2 w5 w.heap.size M A (flat Slot.cells (LL.map Ent.slot)) := by rw [hMe]; exact RwS.sl2 hr2
  refine VC_loop (σ := Nat) (fun σs => [(0, .func (.yield Lb) #[] #[]), (26, .slice A n c), (27, .int .i64 ((n : Nat) : Int)), (28, .int .i64 ((σs : Nat) : Int))]) (fun σs wr => σs ≤ n ∧ J M σs wr ∧ M ≤ wr.heap.size ∧ Sl2 wr w.heap.size M A (flat Slot.cells (LL.map Ent.slot))) (fun σs wr => n - σs) 0 ⟨rfl, rfl, rfl, rfl, trivial⟩ ?_ ?_
  ·exact ⟨by omega, hJ, Nat.le_of_eq hMe, hv2⟩
  rintro j wr ⟨hj, hJ, hMz, hv2⟩
  try dsimp only at hj hJ hMz hv2 ⊢
  have hS2 : Step No wr wr := Step.refl _ _
  refine VC_seq ?_
  refine VC_region ?_
  refine VL_pure 1 [0, 26, 27, 28, 29] [(0, .func (.yield Lb) #[] #[]), (26, .slice A n c), (27, .int .i64 ((n : Nat) : Int)), (28, .int .i64 ((j : Nat) : Int)), (29, .bool (decide (((j : Nat) : Int) < ((n : Nat) : Int))))] (by kernel_rfl) rfl ?_
  refine VL_end (by kernel_rfl) ?_
  refine VQ_next ?_
  refine VC_seq ?_
  refine VC_dec (((j : Nat) : Int) < ((n : Nat) : Int)) (by kernel_rfl) (fun h3 => ?_) (fun h3 => ?_)
  ·refine VC_skip ?_
   refine VQ_next ?_
   refine VC_seq ?_
   refine VC_block ?_
   refine VC_seq ?_
   refine VC_region ?_
   obtain ⟨sb1, so1, rfl, hlbsb1⟩ := (Sl2.sl hv2).open (by rw [flat_len cells_len]; have hq9 : (LL.map Ent.slot).length = n := hlL; omega)
   refine VL_index (d := 30) (b := sb1) (o := so1) (len := n) (sz := 5) (m := ((j : Nat) : Int)) (by kernel_rfl) (by kernel_rfl) j (by rfl) (by omega) (so1 + j * 5) (by omega) ?_
   obtain ⟨y1, hy1⟩ : ∃ x, LL[j]? = some x := ⟨_, List.getElem?_eq_getElem (by have hq9 := hlL; rw [List.length_map] at hq9; omega)⟩
   refine VL_load (d := 31) (t := 79) (a := ⟨sb1, so1 + j * 5, none⟩) (v := .agg #[.int .i64 y1.p, .int .i64 y1.v, .int .i64 y1.c, .int .i64 y1.n, .bool true]) (by kernel_rfl) (by kernel_rfl) (Sl.flatAgg (sz := 5) (Sl2.sl hv2) cells_len (by rw [List.getElem?_map, hy1]; rfl) 0 5 (by kernel_rfl) (by decide) _ (by first | rfl | omega)) ?_
   have hzk1 := hMz
   refine VL_box (d := 7) (t := 79) (c := #[.int .i64 0, .int .i64 0, .int .i64 0, .int .i64 0, .bool false]) (by kernel_rfl) (by kernel_rfl) ?_
   intro b3 w6 hn3
   replace hS2 := Step.trans hS2 (hn3.step No)
   replace hMz := Nat.le_trans hMz (hn3.step No).size
   replace hv2 := hv2.step (hn3.step No) (fun k hk1 hk2 hF => hF)
   have ho4 := hn3.own
   have hzhn3 := hn3.size
   have hqhn3 := hn3.eqb
   refine VL_store (b := b3) (o := 0) (vs := [.int .i64 y1.p, .int .i64 y1.v, .int .i64 y1.c, .int .i64 y1.n, .bool true]) (by kernel_rfl) (by kernel_rfl) ho4 (Nat.le_of_ble_eq_true (by kernel_rfl)) ?_
   intro w7 hw2
   replace hS2 := Step.transNew hS2 hw2.step (fun _ _ _ => by omega)
   replace hMz := Nat.le_trans hMz (hw2.step).size
   replace hv2 := hv2.step hw2.step (fun k hk1 hk2 (hF : k = b3) => by omega)
   have ho5 : Own w7 b3 #[.int .i64 y1.p, .int .i64 y1.v, .int .i64 y1.c, .int .i64 y1.n, .bool true] 79 := Own.cast hw2.own (by kernel_rfl)
   refine VL_end (by kernel_rfl) ?_
   refine VQ_next ?_
   refine VC_seq ?_
   refine VC_region ?_
   refine VL_pure 2 [0, 26, 27, 28, 7, 32, 33] [(0, .func (.yield Lb) #[] #[]), (26, .slice (some ⟨sb1, so1, none⟩) n c), (27, .int .i64 ((n : Nat) : Int)), (28, .int .i64 ((j : Nat) : Int)), (7, .pointer (some ⟨b3, 0, none⟩)), (32, .func (.yield Lb) #[] #[]), (33, .pointer (some ⟨b3, 0, none⟩))] (by kernel_rfl) rfl ?_
   refine VL_load (d := 34) (t := 30) (a := ⟨b3, 0, none⟩) (v := .agg #[.int .i64 y1.p, .int .i64 y1.v, .int .i64 y1.c]) (by kernel_rfl) (by kernel_rfl) (Loads.ownL ho5 (n := 3) (by kernel_rfl) (by kernel_rfl) (by kernel_rfl)) ?_
   refine VL_pure 4 [0, 26, 27, 28, 32, 34, 35] [(0, .func (.yield Lb) #[] #[]), (26, .slice (some ⟨sb1, so1, none⟩) n c), (27, .int .i64 ((n : Nat) : Int)), (28, .int .i64 ((j : Nat) : Int)), (32, .func (.yield Lb) #[] #[]), (34, .agg #[.int .i64 y1.p, .int .i64 y1.v, .int .i64 y1.c]), (35, .pointer (some ⟨b3, 3, none⟩))] (by kernel_rfl) rfl ?_
   refine VL_load (d := 36) (t := 3) (a := ⟨b3, 3, none⟩) (v := .int .i64 y1.n) (by kernel_rfl) (by kernel_rfl) (Loads.own1 ho5 (by kernel_rfl) (by rfl)) ?_
   refine VL_yield (d := 37) (L := Lb) (args := #[.agg #[.int .i64 y1.p, .int .i64 y1.v, .int .i64 y1.c], .int .i64 y1.n]) (by kernel_rfl) (by kernel_rfl) (by kernel_rfl) (hy M j _ _ hM0 hMz (entV_get hy1) (hJn _ _ _ _ hJ hS2)) ?_
   rintro _ w8 ⟨hshy1, (⟨rfl, hy1⟩ | ⟨rfl, hy1⟩)⟩
   ·replace hMz := Nat.le_trans hMz hshy1.size
    have hJ := hy1
    replace hv2 := hv2.step hshy1 (fun k hk1 hk2 hG => by (try simp only at hG); omega)
    refine VL_pure 7 [0, 26, 27, 28, 38] [(0, .func (.yield Lb) #[] #[]), (26, .slice (some ⟨sb1, so1, none⟩) n c), (27, .int .i64 ((n : Nat) : Int)), (28, .int .i64 ((j : Nat) : Int)), (38, .bool false)] (by kernel_rfl) rfl ?_
    refine VL_end (by kernel_rfl) ?_
    refine VQ_next ?_
    refine VC_false (by kernel_rfl) ?_
    refine VC_skip ?_
    refine VQ_block_normal ?_
    refine VQ_next ?_
    refine VC_region ?_
    refine VL_pure 1 [0, 26, 27, 39] [(0, .func (.yield Lb) #[] #[]), (26, .slice (some ⟨sb1, so1, none⟩) n c), (27, .int .i64 ((n : Nat) : Int)), (39, .int .i64 (IntKind.wrap .i64 (((j : Nat) : Int) + 1)))] (by kernel_rfl) rfl ?_
    have he3 : IntKind.wrap .i64 (((j : Nat) : Int) + 1) = ((j + 1 : Nat) : Int) := TCndaa
    refine VL_eq [(0, .func (.yield Lb) #[] #[]), (26, .slice (some ⟨sb1, so1, none⟩) n c), (27, .int .i64 ((n : Nat) : Int)), (39, .int .i64 ((j + 1 : Nat) : Int))] (by rw [he3]) ?_
    refine VL_pure 2 [0, 26, 27, 28] [(0, .func (.yield Lb) #[] #[]), (26, .slice (some ⟨sb1, so1, none⟩) n c), (27, .int .i64 ((n : Nat) : Int)), (28, .int .i64 ((j + 1 : Nat) : Int))] (by kernel_rfl) rfl ?_
    refine VL_end (by kernel_rfl) ?_
    refine VQ_again (j + 1) ⟨rfl, rfl, rfl, rfl, trivial⟩ ?_ ?_
    ·exact ⟨by omega, hJ, hMz, hv2⟩
    ·(try dsimp only); omega
   ·refine VL_pure 7 [0, 26, 27, 28, 38] [(0, .func (.yield Lb) #[] #[]), (26, .slice (some ⟨sb1, so1, none⟩) n c), (27, .int .i64 ((n : Nat) : Int)), (28, .int .i64 ((j : Nat) : Int)), (38, .bool true)] (by kernel_rfl) rfl ?_
    refine VL_end (by kernel_rfl) ?_
    refine VQ_next ?_
    refine VC_true (by kernel_rfl) ?_
    refine VC_ret ?_
    refine VQ_block_ret ?_
    refine VQ_then_ret ?_
    refine VQ_then_ret ?_
    refine VQ_block_ret ?_
    refine VQ_ret0 (.inr rfl) rfl ?_
    exact ⟨M, hM0, .inr ⟨_, by rw [entV_len]; have hq9 := hlL; rw [List.length_map] at hq9; omega, hy1⟩⟩
  ·refine VC_exit ?_
   refine VQ_then_exit ?_
   refine VQ_then_exit ?_
   refine VQ_block_hit ?_
   refine VQ_ret0 (.inl rfl) rfl ?_
   have hjn : j = (entV LL).length := by rw [entV_len]; have hq9 := hlL; rw [List.length_map] at hq9; omega
   exact ⟨M, hM0, .inl (by rw [← hjn]; exact hJ)⟩

theorem all_any (b : Nat) (w : World) :
  CV Tryz.prog 79 #[Pt b 0] w (fun x w1 => ∃ B, x = .func (.func 81) #[] #[Pt B 0] ∧ ¬ B < w.heap.size ∧ Own w1 B #[Pt b 0] 45 ∧ Step No w w1) := by
 have hS : Step No w w := Step.refl _ _
 refine VCe Tryz.func79 (Vs (Vr ?_))
 refine Vx 0 45 #[Pt b 0] ?_
 intro b1 w1 hn1
 replace hS := Step.trans hS (hn1.step No)
 have ho1 := hn1.own
 have hzhn1 := hn1.size
 have hqhn1 := hn1.eqb
 refine Ve (Vn (Vrp (VC_ret (Vr1 (.func (.func 81) #[] #[Pt b1 0]) ?_))))
 exact ⟨b1, rfl, by omega, ho1, hS⟩

end Go.Proofs.YthchmlidobgkoaaGreat
end

section
/- Layer 9: Drop. -/
set_option linter.unusedVariables false
set_option linter.unusedSimpArgs false
set_option maxRecDepth 100000
set_option maxHeartbeats 4000000
namespace Go.Proofs.YthchmlidobgkoaaGreat
open Go.Vc Go.RowKit
theorem TCn8aa {P : Prop} (h : P := by first | exact hfi | exact hat | exact findN_lt _ _ _ _ | omega) : P := h
theorem TCn8ab {P : Prop} (h : P := by intro i hi; first | exact hi | exact ⟨_, by assumption, hi⟩ | (have hi9 : i = b := hi; (first | show _ ∨ _ | show _ = _); omega)) : P := h
theorem TCn8ac {P : Prop} (h : P := by rw [encT_size]; show _ + 5 ≤ _; omega) : P := h

theorem there_of {s : Nat → Slot} {len room : Int} {L : List Ent} (h : TabI s len room L) {p v c n : Int} (hl : lookE L p v c = some n) : (s (findN s p v c)).used = true := by
  have h9 : val s p v c = some n := by rw [h.val]; exact hl
  have h8 : there s p v c = true := by rw [val_there, h9]; rfl
  exact h8
theorem drop_any (b : Nat) (s : Nat → Slot) (len room : Int) (L : List Ent) (p v c : Int) (w : World) (ht : Own w b (encT s len room) 82) (hT : TabI s len room L) :
  CV Tryz.prog 43 #[Pt b 0, .agg #[I6 p, I6 v, I6 c]] w (fun x w1 => ∃ s', x = .tuple #[I6 ((lookE L p v c).getD 0), Bo (lookE L p v c).isSome] ∧ Own w1 b (encT s' ((delE L p v c).length : Int) room) 82 ∧ TabI s' ((delE L p v c).length : Int) room (delE L p v c) ∧ Step (Just b) w w1) := by
 have hS : Step (Just b) w w := Step.refl _ _
 obtain ⟨e, he, hu⟩ := hT.inv.unused
 have hfi := findN_lt s p v c
 have hl0 := hT.len
 have hl1 := hT.inv.fits
 have hl2 := hT.inv.cap
 refine VCe Tryz.func43 (Vs (Vr ?_))
 refine Vx 0 30 #[I6 p, I6 v, I6 c] ?_
 intro b1 w1 hn1
 replace hS := Step.trans hS (Step.weak (hn1.step No))
 replace ht := ht.no (hn1.step No)
 have ho1 := hn1.own
 have hzhn1 := hn1.size
 have hqhn1 := hn1.eqb
 refine Ve (Vn (Vs (Vr (Vl 1 ho1 ?_))))
 refine Vc 2 Tryz.call25 (get_tabL p v c ht hT) ?_
 rintro _ w2 ⟨rfl, hc1⟩
 replace hS := Step.trans hS (Step.weak hc1)
 replace ht := ht.no hc1
 replace ho1 := ho1.no hc1
 refine Ve (Vn (Vs (Vrp (Vif (!((lookE L p v c).isSome)) (fun h1 => ?_) (fun h1 => ?_)))))
 ·try simp only [BB] at h1
  refine Vrp (VC_ret (VQ_then_ret (Vr2 (I6 0) (Bo false) ?_)))
  exact ⟨s, by rw [show lookE L p v c = none by simpa using h1]; rfl, Own.cast ht (by rw [delE_none (by simpa using h1), ← hT.len]), by rw [delE_none (by simpa using h1), ← hT.len]; exact hT, hS⟩
 ·try simp only [BB] at h1
  refine VC_skip (Vn (Vs ?_))
  obtain ⟨nn, hnn⟩ : ∃ n, lookE L p v c = some n := Option.isSome_iff_exists.1 (by simpa using h1)
  have hfu : (s (findN s p v c)).used = true := there_of hT hnn
  obtain ⟨hd0, hk0, hk1⟩ := hT.dropI he hu hfi hfu
  refine Vr (Vl 1 ho1 ?_)
  refine VL_call (d := 20) (f := 53) (by kernel_rfl) (by kernel_rfl) (by kernel_rfl) Tryz.call53 (find_at p v c ht he hu) ?_
  rintro _ w3 ⟨rfl, hc2⟩
  replace hS := Step.trans hS (Step.weak hc2)
  replace ht := ht.no hc2
  refine Ve (Vn (Vs (Vr (Vp 5 (VL_index (d := 26) (b := b) (o := 0) (len := 128) (sz := 5) (m := ((findN s p v c : Nat) : Int)) (by kernel_rfl) (by kernel_rfl) (findN s p v c) (by rfl) TCn8aa ((findN s p v c) * 5) (by omega) (VL_store (b := b) (o := (findN s p v c) * 5) (vs := [I6 0, I6 0, I6 0, I6 0, Bo false]) (by kernel_rfl) (by kernel_rfl) ht TCn8ac ?_))))))
  intro w4 hw1
  replace hS := Step.trans hS (Step.mono hw1.step TCn8ab)
  have ho2 : Own w4 b (encT (setS s (findN s p v c) ⟨0, 0, 0, 0, false⟩) len room) 82 := Own.cast hw1.own (setRow_slot s len room (findN s p v c) TCn8aa ⟨0, 0, 0, 0, false⟩)
  refine Ve (Vn (Vs (Vr (Vla 3 (t := 3) (a := ⟨b, 640, none⟩) (v := I6 len) (Loads.own1 ho2 (by kernel_rfl) (encT_len (setS s (findN s p v c) ⟨0, 0, 0, 0, false⟩) len room)) (Vp 7 (Vq 31 (I6 (IntKind.wrap .i64 (len - 1))) (I6 (len - 1)) (by rw [wrap_i64 (len - 1) (by omega) (by omega)]) (VL_store (b := b) (o := 640) (vs := [I6 (len - 1)]) (by kernel_rfl) (by kernel_rfl) ho2 (by rw [encT_size]; exact Nat.le_of_ble_eq_true (by kernel_rfl)) ?_)))))))
  intro w5 hw2
  replace hS := Step.trans hS (Step.mono hw2.step TCn8ab)
  have ho3 : Own w5 b (encT (setS s (findN s p v c) ⟨0, 0, 0, 0, false⟩) (len - 1) room) 82 := Own.cast hw2.own (setRow_len _ _ _ _)
  refine Ve (Vn (Vs (Vs (Vr (Vp 3 (Vq 36 (I6 ((IntKind.wrap .i64 (((findN s p v c : Nat) : Int) + 1)).tmod 128)) (I6 ((atE e (offE e (findN s p v c) + 1) : Nat) : Int)) (by rw [wrap_i64 _ (by omega) (by omega), ← hk1]; exact congrArg _ (by rw [Int.tmod_eq_emod_of_nonneg (by omega)]; rfl)) (Ve (Vn (VC_block (VC_loop (σ := Nat × (Nat → Slot)) (fun σs => [(0, Pt b 0), (6, I6 ((lookE L p v c).getD 0)), (8, I6 ((atE e σs.1 : Nat) : Int))]) (fun σs wr => σs.1 ≤ 128 ∧ DropI σs.2 e σs.1 ∧ (∀ x, HasS σs.2 x ↔ HasS (setS s (findN s p v c) noSlot) x) ∧ Step (Just b) w wr ∧ Own wr b (encT σs.2 (len - 1) room) 82) (fun σs wr => 128 - σs.1) ⟨(offE e (findN s p v c) + 1), (setS s (findN s p v c) noSlot)⟩ Su ?_ ?_))))))))))
  ·exact ⟨by omega, hd0, fun _ => Iff.rfl, hS, ho3⟩
  rintro ⟨k, s1⟩ wr ⟨hk, hd, hm, hS, ht⟩
  try dsimp only at hk hd hm hS ht ⊢
  have hat := atE_lt e k
  refine Vs (Vs (Vr (Vp 4 (VL_index (d := 41) (b := b) (o := 0) (len := 128) (sz := 5) (m := ((atE e k : Nat) : Int)) (by kernel_rfl) (by kernel_rfl) (atE e k) (by rfl) TCn8aa ((atE e k) * 5) (by omega) (Vla 6 (t := 4) (a := ⟨b, (atE e k) * 5 + 4, none⟩) (v := Bo ((s1 (atE e k)).used)) (Loads.own1 ht (by kernel_rfl) (encT_used s1 (len - 1) room (atE e k) TCn8aa)) (Ve (Vn (Vif ((s1 (atE e k)).used) (fun h2 => ?_) (fun h2 => ?_)))))))))
  ·try simp only [BB] at h2
   refine VC_skip (Vn (Vs (VC_block (Vs ?_))))
   have hk2 := hd.lt he hk h2
   obtain ⟨f9, hf1, hf2, hf3, hnx, hmx⟩ := hd.next he hk2 h2
   subst hf2
   have hf8 := findN_lt (setS s1 (atE e k) ⟨0, 0, 0, 0, false⟩) (s1 (atE e k)).p (s1 (atE e k)).v (s1 (atE e k)).c
   refine Vr (Vp 4 (VL_index (d := 51) (b := b) (o := 0) (len := 128) (sz := 5) (m := ((atE e k : Nat) : Int)) (by kernel_rfl) (by kernel_rfl) (atE e k) (by rfl) TCn8aa ((atE e k) * 5) (by omega) (Vla 5 (t := 79) (a := ⟨b, (atE e k) * 5, none⟩) (v := .agg #[I6 ((s1 (atE e k)).p), I6 ((s1 (atE e k)).v), I6 ((s1 (atE e k)).c), I6 ((s1 (atE e k)).n), Bo ((s1 (atE e k)).used)]) (Loads.own ht (n := 5) (by kernel_rfl) (by rw [encT_size]; omega) (encT_all s1 (len - 1) room (atE e k) TCn8aa)) ?_)))
   have hzs4 := hS.size
   have hzl6 := ht.lt
   refine Vx 6 79 #[I6 0, I6 0, I6 0, I6 0, Bo false] ?_
   intro b2 w6 hn2
   replace hS := Step.trans hS (Step.weak (hn2.step No))
   replace ht := ht.no (hn2.step No)
   have ho4 := hn2.own
   have hzhn2 := hn2.size
   have hqhn2 := hn2.eqb
   refine Vst 7 (o := 0) [I6 ((s1 (atE e k)).p), I6 ((s1 (atE e k)).v), I6 ((s1 (atE e k)).c), I6 ((s1 (atE e k)).n), Bo ((s1 (atE e k)).used)] ho4 #[I6 ((s1 (atE e k)).p), I6 ((s1 (atE e k)).v), I6 ((s1 (atE e k)).c), I6 ((s1 (atE e k)).n), Bo ((s1 (atE e k)).used)] ?_
   intro w7 hw3
   replace hS := Step.transNew hS hw3.step (fun _ _ _ => by omega)
   replace ht := ht.step hw3.step (show ¬ b = b2 by omega)
   have ho5 := hw3.own
   have hzhw3 := hw3.same
   refine Ve (Vn (Vs (Vr (Vp 5 (VL_index (d := 58) (b := b) (o := 0) (len := 128) (sz := 5) (m := ((atE e k : Nat) : Int)) (by kernel_rfl) (by kernel_rfl) (atE e k) (by rfl) TCn8aa ((atE e k) * 5) (by omega) (VL_store (b := b) (o := (atE e k) * 5) (vs := [I6 0, I6 0, I6 0, I6 0, Bo false]) (by kernel_rfl) (by kernel_rfl) ht TCn8ac ?_))))))
   intro w8 hw4
   replace hS := Step.trans hS (Step.mono hw4.step TCn8ab)
   replace ho5 := ho5.step hw4.step (show ¬ b2 = b by omega)
   have ho6 : Own w8 b (encT (setS s1 (atE e k) ⟨0, 0, 0, 0, false⟩) (len - 1) room) 82 := Own.cast hw4.own (setRow_slot s1 (len - 1) room (atE e k) TCn8aa ⟨0, 0, 0, 0, false⟩)
   refine Ve (Vn (Vd 8 [(3, .agg #[I6 ((s1 (atE e k)).p), I6 ((s1 (atE e k)).v), I6 ((s1 (atE e k)).c)]), (4, I6 ((findN (setS s1 (atE e k) ⟨0, 0, 0, 0, false⟩) ((s1 (atE e k)).p) ((s1 (atE e k)).v) ((s1 (atE e k)).c) : Nat) : Int)), (5, .agg #[I6 ((s1 (atE e k)).p), I6 ((s1 (atE e k)).v), I6 ((s1 (atE e k)).c), I6 ((s1 (atE e k)).n), Bo ((s1 (atE e k)).used)])] [3, 4, 5] ?_ ?_))
   ·intro w9 hs1
    replace ho5 := ho5.no hs1
    replace ho6 := ho6.no hs1
    exact ⟨Dl ho5, Dc Tryz.call53 (find_at (s := setS s1 (atE e k) ⟨0, 0, 0, 0, false⟩) ((s1 (atE e k)).p) ((s1 (atE e k)).v) ((s1 (atE e k)).c) ho6 (atE_lt e k) (by rw [setS_eq])), Dl ho5, trivial⟩
   intro w9 hs1
   replace hS := Step.trans hS (Step.weak hs1)
   replace ho6 := ho6.no hs1
   refine VL_index (d := 67) (b := b) (o := 0) (len := 128) (sz := 5) (m := ((findN (setS s1 (atE e k) ⟨0, 0, 0, 0, false⟩) ((s1 (atE e k)).p) ((s1 (atE e k)).v) ((s1 (atE e k)).c) : Nat) : Int)) (by kernel_rfl) (by kernel_rfl) (findN (setS s1 (atE e k) ⟨0, 0, 0, 0, false⟩) ((s1 (atE e k)).p) ((s1 (atE e k)).v) ((s1 (atE e k)).c)) (by rfl) TCn8aa ((findN (setS s1 (atE e k) ⟨0, 0, 0, 0, false⟩) ((s1 (atE e k)).p) ((s1 (atE e k)).v) ((s1 (atE e k)).c)) * 5) (by omega) (VL_store (b := b) (o := (findN (setS s1 (atE e k) ⟨0, 0, 0, 0, false⟩) ((s1 (atE e k)).p) ((s1 (atE e k)).v) ((s1 (atE e k)).c)) * 5) (vs := [I6 ((s1 (atE e k)).p), I6 ((s1 (atE e k)).v), I6 ((s1 (atE e k)).c), I6 ((s1 (atE e k)).n), Bo ((s1 (atE e k)).used)]) (by kernel_rfl) (by kernel_rfl) ho6 TCn8ac ?_)
   intro w10 hw5
   replace hS := Step.trans hS (Step.mono hw5.step TCn8ab)
   have ho7 : Own w10 b (encT (setS (setS s1 (atE e k) ⟨0, 0, 0, 0, false⟩) (findN (setS s1 (atE e k) ⟨0, 0, 0, 0, false⟩) ((s1 (atE e k)).p) ((s1 (atE e k)).v) ((s1 (atE e k)).c)) ⟨(s1 (atE e k)).p, (s1 (atE e k)).v, (s1 (atE e k)).c, (s1 (atE e k)).n, (s1 (atE e k)).used⟩) (len - 1) room) 82 := Own.cast hw5.own (setRow_slot (setS s1 (atE e k) ⟨0, 0, 0, 0, false⟩) (len - 1) room (findN (setS s1 (atE e k) ⟨0, 0, 0, 0, false⟩) ((s1 (atE e k)).p) ((s1 (atE e k)).v) ((s1 (atE e k)).c)) TCn8aa ⟨(s1 (atE e k)).p, (s1 (atE e k)).v, (s1 (atE e k)).c, (s1 (atE e k)).n, (s1 (atE e k)).used⟩)
   refine Ve (VQ_block_normal (Vn (Vr (Vp 3 (Vq 46 (I6 ((IntKind.wrap .i64 (((atE e k : Nat) : Int) + 1)).tmod 128)) (I6 ((atE e (k + 1) : Nat) : Int)) (by rw [wrap_i64 _ (by omega) (by omega), ← atE_succ he]; exact congrArg _ (by rw [Int.tmod_eq_emod_of_nonneg (by omega)]; rfl)) (Ve (VQ_again ⟨k + 1, setS (setS s1 (atE e k) noSlot) (findN (setS s1 (atE e k) noSlot) (s1 (atE e k)).p (s1 (atE e k)).v (s1 (atE e k)).c) (s1 (atE e k))⟩ Su ?_ ?_)))))))
   ·exact ⟨by omega, hnx, fun x => (hmx x).trans (hm x), hS, ho7⟩
   ·show 128 - (k + 1) < 128 - k; omega
  ·try simp only [BB] at h2
   refine VC_exit (VQ_then_exit (VQ_then_exit (VQ_block_hit (Vn (Vs ?_)))))
   have htab := hT.drop hnn he hd (by rcases Nat.lt_or_eq_of_le hk with h9 | h9; exact .inl ⟨h9, by simpa using h2⟩; exact .inr h9) hm
   have hlen9 := htab.len
   refine Vr (Ve (Vn (VC_ret (Vr2 (I6 ((lookE L p v c).getD 0)) (Bo true) ?_))))
   exact ⟨s1, by rw [hnn]; rfl, Own.cast ht (by rw [show len - 1 = ((delE L p v c).length : Int) from hlen9]), by rw [← hlen9]; exact htab, hS⟩

end Go.Proofs.YthchmlidobgkoaaGreat
end

section
/- Package conns: a table is its list; no more is told of it. -/
set_option linter.unusedVariables false
set_option linter.unusedSimpArgs false
namespace Go.Proofs.YthchmlidobgkoaaGreat
open Go.Vc Go.RowKit
def Tb (w : World) (b : Nat) (room : Int) (L : List Ent) : Prop := ∃ s len, Own w b (encT s len room) 82 ∧ TabI s len room L
section
variable {w w' : World} {b : Nat} {room : Int} {L : List Ent}
theorem Tb.lt (h : Tb w b room L) : b < w.heap.size := by obtain ⟨s, len, ht, hT⟩ := h; exact ht.lt
theorem Tb.no (h : Tb w b room L) (hs : Step No w w') : Tb w' b room L := by obtain ⟨s, len, ht, hT⟩ := h; exact ⟨s, len, ht.no hs, hT⟩
theorem Tb.step {F : Nat → Prop} (h : Tb w b room L) (hs : Step F w w') (hF : ¬ F b) : Tb w' b room L := by obtain ⟨s, len, ht, hT⟩ := h; exact ⟨s, len, ht.step hs hF, hT⟩
theorem Tb.small (h : Tb w b room L) : L.length ≤ 64 := by
  obtain ⟨s, len, ht, hT⟩ := h
  have h1 := hT.len; have h2 := hT.inv.fits; have h3 := hT.inv.cap
  omega
theorem Tb.srt (h : Tb w b room L) : SrtE L := by obtain ⟨s, len, ht, hT⟩ := h; exact hT.srt
theorem Tb.right (h : Tb w b room L) {x : Ent} (hx : x ∈ L) : rightB x.p x.v x.c = true := by obtain ⟨s, len, ht, hT⟩ := h; exact hT.right hx
theorem Tb.fits (h : Tb w b room L) : (L.length : Int) ≤ room ∧ room ≤ 64 := by
  obtain ⟨s, len, ht, hT⟩ := h
  have h1 := hT.len; have h2 := hT.inv.fits; have h3 := hT.inv.cap
  omega
theorem tput (p v c n : Int) (h : Tb w b room L) : CV Tryz.prog 35 #[.pointer (some ⟨b, 0, none⟩), .agg #[.int .i64 p, .int .i64 v, .int .i64 c], .int .i64 n] w fun x w1 => x = .int .i64 (putK L room p v c) ∧ Tb w1 b room (putE L room p v c n) ∧ Step (Just b) w w1 := by
  obtain ⟨s, len, ht, hT⟩ := h
  refine (put_tab p v c n ht hT.inv).mono ?_
  rintro x w1 ⟨rfl, h1, h2, h3⟩
  exact ⟨by rw [hT.putC], ⟨_, _, h1, hT.put p v c n⟩, h3⟩
theorem tget (p v c : Int) (h : Tb w b room L) : CV Tryz.prog 25 #[.pointer (some ⟨b, 0, none⟩), .agg #[.int .i64 p, .int .i64 v, .int .i64 c]] w fun x w1 => x = .tuple #[.int .i64 ((lookE L p v c).getD 0), .bool (lookE L p v c).isSome] ∧ Step No w w1 := by
  obtain ⟨s, len, ht, hT⟩ := h
  exact get_tabL p v c ht hT
theorem tlen (h : Tb w b room L) : CV Tryz.prog 26 #[.pointer (some ⟨b, 0, none⟩)] w fun x w1 => x = .int .i64 ((L.length : Nat) : Int) ∧ Step No w w1 := by
  obtain ⟨s, len, ht, hT⟩ := h
  rw [← hT.len]
  exact len_tab ht
theorem tdrop (p v c : Int) (h : Tb w b room L) : CV Tryz.prog 43 #[.pointer (some ⟨b, 0, none⟩), .agg #[.int .i64 p, .int .i64 v, .int .i64 c]] w fun x w1 => x = .tuple #[.int .i64 ((lookE L p v c).getD 0), .bool (lookE L p v c).isSome] ∧ Tb w1 b room (delE L p v c) ∧ Step (Just b) w w1 := by
  obtain ⟨s, len, ht, hT⟩ := h
  refine (drop_any b s len room L p v c w ht hT).mono ?_
  rintro x w1 ⟨s', rfl, h1, h2, h3⟩
  exact ⟨rfl, ⟨_, _, h1, h2⟩, h3⟩
theorem tnew (m : Int) (w : World) : CV Tryz.prog 22 #[.int .i64 m] w fun x w1 => ∃ b, x = .pointer (some ⟨b, 0, none⟩) ∧ ¬ b < w.heap.size ∧ Tb w1 b (imax 0 (imin m 64)) [] ∧ Step No w w1 := by
  refine (new_any m w).mono ?_
  rintro x w1 ⟨b, rfl, h1, h2, h3⟩
  exact ⟨b, rfl, h1, ⟨_, _, h2, TabI.new m⟩, h3⟩
theorem titer (B b : Nat) (room : Int) (LL : List Ent) :
    IterC Tryz.prog 81 #[.pointer (some ⟨B, 0, none⟩)] (entV LL) (fun k W => k = 0 → Own W B #[.pointer (some ⟨b, 0, none⟩)] 45 ∧ Tb W b room LL) := by
  intro L W0 J Jx hJn hJxn hrd hrd0 h0 hy
  obtain ⟨hB, s, len, ht, hT⟩ := hrd0 rfl
  exact all1_any L B b s len room LL hT W0 J Jx hJn hB ht h0 fun M k W args hM hM2 hx hj => hy M k W args hM hM2 hx hj
end
/-! ### Plain -/
end Go.Proofs.YthchmlidobgkoaaGreat
end
