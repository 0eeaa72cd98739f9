/- The calculus' seventh part: slices: built, cut, copied, appended to; bytes as a string; externs; results in memory. -/
import Derived.Test.YtfkahhkojlfmdaaVc5
import Derived.Lib.MakeNoZero
import Derived.Laws.BytesString
set_option linter.unusedVariables false
set_option linter.unusedSimpArgs false
namespace Go.Vc
open Go.RowKit

theorem New.step' {F : Nat → Prop} {w w' : World} {b : Nat} {o : Obj} (h : New w w' b o) : Step F w w' := h.step F
theorem oneC_oneCell {v : Value} (h : oneC v = true) : v.oneCell' = true := by cases v <;> first | rfl | cases h

section
variable {r : Option Nat} {n : Nat} {ds : List Deferred} {P : Program} {ops : Array Oper} {Q : Exit → Act → World → Prop} {l : List (Nat × Value)} {w : World} {i : Nat} {K : List (Nat × Value) → World → Prop}

/-! ### 1. A slice that is built -/
def bsZero (sz : Nat) (len : Nat) (inf : TypeInfo) : Option (Array Value) := bif Nat.beq (len * sz) 0 then some #[] else inf.zero.map (·.cells)
def bsOp (P : Program) (n : Nat) (ops : Array Oper) (l : List (Nat × Value)) (i : Nat) : Option (Nat × TypeId × Array Value × Nat) :=
  match theOp ops l i with
  | some { dst := some d, op := .buildSlice t len parts, .. } =>
    match P.underlying t with
    | some (.slice e) => match P.info? e with
      | some inf => match bsZero inf.size len inf with
        | some z => match Instr.fill (fun i => some (i * inf.size, inf.size)) ((Array.range (len * inf.size)).map (z[· % z.size]!)) (parts.map fun (i, x) => (i, evL l x)).toList with
          | some cells => bif Nat.blt d n && Nat.ble (len * inf.size) 16777216 then some (d, e, cells, len) else none
          | none => none
        | none => none
      | none => none
    | _ => none
  | _ => none
theorem V1_bs {d : Nat} {e : TypeId} {c : Array Value} {len : Nat} (h : bsOp P n ops l i = some (d, e, c, len)) (next : ∀ b w1, New w w1 b (.cells c e) → K ((d, .slice (some ⟨b, 0, none⟩) len len) :: l) w1) : V1 r n ds P ops Q i l w K := by
  unfold bsOp at h
  split at h
  · rename_i _ d' t len' parts ty pos aft gd ho
    split at h
    · rename_i e' hu
      split at h
      · rename_i inf hinf
        split at h
        · rename_i z hz
          split at h
          · rename_i cells hfill
            cases hb : Nat.blt d' n && Nat.ble (len' * inf.size) 16777216 with
            | false => rw [hb] at h; cases h
            | true =>
              rw [hb] at h
              simp only [cond_true, Option.some.injEq, Prod.mk.injEq] at h
              obtain ⟨rfl, rfl, rfl, rfl⟩ := h
              simp only [Bool.and_eq_true] at hb
              have hle := Nat.le_of_ble_eq_true hb.2
              refine V1_value ho rfl hb.1 ?_ (next w.heap.size _ ⟨rfl, rfl⟩)
              have hfill' : Instr.fill (fun i => some (i * inf.size, inf.size)) (Array.map (fun x => z[x % z.size]!) (Array.range (len' * inf.size))) (Array.map (fun x => (x.1, evL l x.2)) parts).toList = some cells := hfill
              have hnot : ¬ (len' * inf.size > 2 ^ 24) := by omega
              by_cases h0 : len' * inf.size = 0
              · have hz0 : z = #[] := by
                  unfold bsZero at hz
                  rw [h0, show Nat.beq 0 0 = true from rfl] at hz
                  simpa using hz.symm
                subst hz0
                simp only [execOp, Instr.buildSlice, Sem.run_bind, run_underlying' hu, Result.andThen_ok, run_sizeOf hinf]
                rw [if_neg hnot, if_pos h0]
                simp only [Sem.run_bind, Sem.run_pure, Result.andThen_ok, hfill', newRow, newObj, Sem.run]
                rfl
              · have hbq : Nat.beq (len' * inf.size) 0 = false := by cases hq : Nat.beq (len' * inf.size) 0; rfl; exact absurd (Nat.eq_of_beq_eq_true hq) h0
                unfold bsZero at hz
                rw [hbq] at hz
                simp only [cond_false] at hz
                obtain ⟨zz, hzz, rfl⟩ := Option.map_eq_some_iff.1 hz
                have hzv : (zeroValue e').run P w = .ok zz w := by simp [zeroValue, typeInfo, program, Sem.run, hinf, hzz]
                simp only [execOp, Instr.buildSlice, Sem.run_bind, run_underlying' hu, Result.andThen_ok, run_sizeOf hinf]
                rw [if_neg hnot, if_neg h0]
                simp only [Sem.run_bind, Sem.run_pure, Result.andThen_ok, hzv, hfill', newRow, newObj, Sem.run]
                rfl
          · cases h
        · cases h
      · cases h
    · cases h
  · cases h
theorem VL_bs {d : Nat} {e : TypeId} {c : Array Value} {len : Nat} (h : bsOp P n ops l i = some (d, e, c, len)) (hi : Nat.blt i ops.size = true) (next : ∀ b w1, New w w1 b (.cells c e) → VL r n ds P ops Q (i + 1) ((d, .slice (some ⟨b, 0, none⟩) len len) :: l) w1) : VL r n ds P ops Q i l w :=
  VL_of_V1 hi (V1_bs h next)

/-! ### 2. Slice expressions -/
def optInt (l : List (Nat × Value)) : Option Operand → Option (Option Int)
  | none => some none
  | some x => match evL l x with
    | .int _ k => some (some k)
    | _ => none
def sliceOp (P : Program) (n : Nat) (ops : Array Oper) (l : List (Nat × Value)) (i : Nat) : Option (Nat × Nat × Nat × Nat × Nat × Nat × Option Int × Option Int × Option Int) :=
  match theOp ops l i with
  | some { dst := some d, op := .slice t x lo hi mx, .. } =>
    match optInt l lo, optInt l hi, optInt l mx with
    | some lo, some hi, some mx => match P.underlying t, evL l x with
      | some (.array len elem), .pointer (some ⟨b, o, none⟩) => match (P.info? elem).map (·.size) with
        | some sz => bif Nat.blt d n then some (d, b, o, sz, len, len, lo, hi, mx) else none
        | none => none
      | some (.slice elem), .slice (some ⟨b, o, none⟩) len cap => match (P.info? elem).map (·.size) with
        | some sz => bif Nat.blt d n then some (d, b, o, sz, len, cap, lo, hi, mx) else none
        | none => none
      | _, _ => none
    | _, _, _ => none
  | _ => none
theorem run_sliceBound {k : IntKind} {m : Int} {y : Nat} {code : BoundsCode} (N : Nat) (hm : m = N) (h : N ≤ y) : (Instr.sliceBound (.int k m) y code).run P w = .ok N w := by
  subst hm
  unfold Instr.sliceBound
  simp only [asIntOf, Sem.run_bind, Sem.run_pure, Result.andThen_ok]
  rw [if_pos ⟨by omega, by omega⟩]
  rfl
theorem optInt_spec {l : List (Nat × Value)} {x : Option Operand} {m : Option Int} (h : optInt l x = some m) : (x = none ∧ m = none) ∨ ∃ k i y, x.map (evL l) = some (.int k i) ∧ x = some y ∧ m = some i := by
  cases x with
  | none => simp only [optInt, Option.some.injEq] at h; exact .inl ⟨rfl, h.symm⟩
  | some y =>
    simp only [optInt] at h
    split at h
    · rename_i k i hx
      cases h
      exact .inr ⟨k, i, y, by simp [hx], rfl, rfl⟩
    · cases h
theorem run_sliceBounds {isSlice : Bool} {len cap : Nat} {l : List (Nat × Value)} {lo hi mx : Option Operand} {loi hii mxi : Option Int} (hlo : optInt l lo = some loi) (hhi : optInt l hi = some hii) (hmx : optInt l mx = some mxi) (hno : mxi ≠ none → hii ≠ none) (L H M : Nat)
    (hl : loi.getD 0 = L) (hh : hii.getD len = H) (hm : mxi.getD cap = M) (h1 : L ≤ H) (h2 : H ≤ M) (h3 : M ≤ cap) :
    (Instr.sliceBounds isSlice len cap (lo.map (evL l)) (hi.map (evL l)) (mx.map (evL l))).run P w = .ok (L, H, M) w := by
  have hb : ∀ (k : IntKind) (m : Int) (y N : Nat) (code : BoundsCode), m = N → N ≤ y → (Instr.sliceBound (.int k m) y code).run P w = .ok N w := fun k m y N code h1 h2 => run_sliceBound N h1 h2
  rcases optInt_spec hmx with ⟨rfl, rfl⟩ | ⟨km, im, ym, hM, hM', rfl⟩ <;> rcases optInt_spec hhi with ⟨rfl, rfl⟩ | ⟨kh, ih, yh, hH, hH', rfl⟩ <;> rcases optInt_spec hlo with ⟨rfl, rfl⟩ | ⟨kl, il, yl, hL, hL', rfl⟩
  · simp only [Option.getD_none, Option.getD_some] at hl hh hm
    obtain rfl : M = cap := by omega
    obtain rfl : H = len := by omega
    obtain rfl : L = 0 := by omega
    unfold Instr.sliceBounds
    simp only [Option.map_none, Sem.run_bind, Sem.run_pure, Result.andThen_ok]
  · simp only [Option.getD_none, Option.getD_some] at hl hh hm
    obtain rfl : M = cap := by omega
    obtain rfl : H = len := by omega
    unfold Instr.sliceBounds
    rw [hL]
    simp only [Option.map_none, Sem.run_bind, Sem.run_pure, Result.andThen_ok, hb _ _ _ _ _ hl h1]
  · simp only [Option.getD_none, Option.getD_some] at hl hh hm
    obtain rfl : M = cap := by omega
    obtain rfl : L = 0 := by omega
    unfold Instr.sliceBounds
    rw [hH]
    simp only [Option.map_none, Sem.run_bind, Sem.run_pure, Result.andThen_ok, hb _ _ _ _ _ hh h2]
  · simp only [Option.getD_none, Option.getD_some] at hl hh hm
    obtain rfl : M = cap := by omega
    unfold Instr.sliceBounds
    rw [hH]
    rw [hL]
    simp only [Option.map_none, Sem.run_bind, Sem.run_pure, Result.andThen_ok, hb _ _ _ _ _ hh h2, hb _ _ _ _ _ hl h1]
  · exact absurd rfl (hno (fun e => by cases e))
  · exact absurd rfl (hno (fun e => by cases e))
  · simp only [Option.getD_none, Option.getD_some] at hl hh hm
    obtain rfl : L = 0 := by omega
    unfold Instr.sliceBounds
    rw [hM]
    rw [hH]
    simp only [Option.map_none, Sem.run_bind, Sem.run_pure, Result.andThen_ok, hb _ _ _ _ _ hm h3, hb _ _ _ _ _ hh h2]
  · simp only [Option.getD_none, Option.getD_some] at hl hh hm
    unfold Instr.sliceBounds
    rw [hM]
    rw [hH]
    rw [hL]
    simp only [Option.map_none, Sem.run_bind, Sem.run_pure, Result.andThen_ok, hb _ _ _ _ _ hm h3, hb _ _ _ _ _ hh h2, hb _ _ _ _ _ hl h1]
theorem V1_slice {d b o sz len cap : Nat} {lo hi mx : Option Int} (h : sliceOp P n ops l i = some (d, b, o, sz, len, cap, lo, hi, mx)) (hno : mx ≠ none → hi ≠ none) (L H M : Nat)
    (hl : lo.getD 0 = L) (hh : hi.getD len = H) (hm : mx.getD cap = M) (h1 : L ≤ H) (h2 : H ≤ M) (h3 : M ≤ cap) (o' : Nat) (ho' : (if M = L then o else o + L * sz) = o') (next : K ((d, .slice (some ⟨b, o', none⟩) (H - L) (M - L)) :: l) w) : V1 r n ds P ops Q i l w K := by
  subst ho'
  unfold sliceOp at h
  split at h
  · rename_i _ d' t x lo' hi' mx' ty pos aft gd ho
    split at h
    · rename_i loi hii mxi hlo hhi hmx
      split at h
      · rename_i len' elem b' o' hu hx
        split at h
        · rename_i sz' hsz
          cases hb : Nat.blt d' n with
          | false => rw [hb] at h; cases h
          | true =>
            rw [hb] at h
            simp only [cond_true, Option.some.injEq, Prod.mk.injEq] at h
            obtain ⟨rfl, rfl, rfl, rfl, rfl, rfl, rfl, rfl, rfl⟩ := h
            obtain ⟨inf, hinf, hs⟩ := Option.map_eq_some_iff.1 hsz
            refine V1_value ho rfl hb ?_ next
            simp only [execOp, Instr.sliceAt, hx, Sem.run_bind, run_underlying' hu, Result.andThen_ok, Instr.sureAddr, Sem.run_pure, run_sliceBounds (w := w) (P := P) hlo hhi hmx hno L H M hl hh hm h1 h2 h3, run_sizeOf hinf, hs, add_none]
            by_cases e : M = L <;> simp [e]
        · cases h
      · rename_i elem b' o' len' cap' hu hx
        split at h
        · rename_i sz' hsz
          cases hb : Nat.blt d' n with
          | false => rw [hb] at h; cases h
          | true =>
            rw [hb] at h
            simp only [cond_true, Option.some.injEq, Prod.mk.injEq] at h
            obtain ⟨rfl, rfl, rfl, rfl, rfl, rfl, rfl, rfl, rfl⟩ := h
            obtain ⟨inf, hinf, hs⟩ := Option.map_eq_some_iff.1 hsz
            refine V1_value ho rfl hb ?_ next
            simp only [execOp, Instr.sliceAt, Instr.slice, hx, Sem.run_bind, run_underlying' hu, Result.andThen_ok, Sem.run_pure, run_sliceBounds (w := w) (P := P) hlo hhi hmx hno L H M hl hh hm h1 h2 h3, run_sizeOf hinf, hs, add_none, Option.map_some]
            by_cases e : M = L <;> simp [e]
        · cases h
      · cases h
    · cases h
  · cases h
theorem VL_slice {d b o sz len cap : Nat} {lo hi mx : Option Int} (h : sliceOp P n ops l i = some (d, b, o, sz, len, cap, lo, hi, mx)) (hi' : Nat.blt i ops.size = true) (hno : mx ≠ none → hi ≠ none) (L H M : Nat)
    (hl : lo.getD 0 = L) (hh : hi.getD len = H) (hm : mx.getD cap = M) (h1 : L ≤ H) (h2 : H ≤ M) (h3 : M ≤ cap) (o' : Nat) (ho' : (if M = L then o else o + L * sz) = o') (N : Nat) (hN : H - L = N) (C : Nat) (hC : M - L = C) (next : VL r n ds P ops Q (i + 1) ((d, .slice (some ⟨b, o', none⟩) N C) :: l) w) : VL r n ds P ops Q i l w := by
  subst hN; subst hC
  exact VL_of_V1 hi' (V1_slice h hno L H M hl hh hm h1 h2 h3 o' ho' next)

/-! ### 3. copy -/
def copyOp (P : Program) (n : Nat) (ops : Array Oper) (l : List (Nat × Value)) (i : Nat) : Option (Nat × Nat × Nat × Nat × Nat × Nat × Nat × Nat) :=
  match theOp ops l i with
  | some { dst := some d, op := .call { callee := .builtin .copy, args := ags, argTypes := ts }, .. } =>
    match ((ts[0]?).bind P.underlying : Option TypeDesc), ((ags.map (evL l))[0]? : Option Value), ((ags.map (evL l))[1]? : Option Value) with
    | some (TypeDesc.slice elem), some (Value.slice (some ⟨b, o, none⟩) dl _), some (Value.slice (some ⟨b2, o2, none⟩) sl _) => match (P.info? elem).map (·.size) with
      | some sz => bif Nat.blt d n then some (d, b, o, dl, b2, o2, sl, sz) else none
      | none => none
    | _, _, _ => none
  | _ => none
theorem run_loadCells' {a : Addr} {m : Nat} {vs : List Value} (hm : vs.length = m) (h : ∀ j, j < m → w.cell? (a.add j) = vs[j]?) : (loadCells a m).run P w = .ok vs.toArray w := by
  have hl := run_loadCellsFrom (P := P) (w := w) (a := a) m 0 #[] (fun j => vs.getD j undef) (fun j hj => by
    rw [Nat.zero_add, h j hj, List.getElem?_eq_getElem (by omega)]; simp [List.getD, show j < vs.length by omega])
  have he : (#[] ++ Array.ofFn fun j : Fin m => vs.getD j undef) = vs.toArray := by
    apply Array.ext
    · simp [hm]
    · intro j h1 h2
      simp at h1 h2
      simp [List.getD, h2]
  rw [he] at hl
  exact hl
theorem V1_copy {d b o dl b2 o2 sl sz : Nat} {c : Array Value} {e : TypeId} (h : copyOp P n ops l i = some (d, b, o, dl, b2, o2, sl, sz)) (k : Nat) (hk : Nat.min sl dl = k) (vs : List Value) (hvs : vs.length = k * sz) (hsrc : ∀ j, j < k * sz → w.cell? ⟨b2, o2 + j, none⟩ = vs[j]?) (hone : ∀ v ∈ vs, oneC v = true)
    (hB : Own w b c e) (hsz : o + vs.length ≤ c.size) (next : ∀ w1, Wr w w1 b (setRow c o vs) e → K ((d, .int .i64 (k : Int)) :: l) w1) : V1 r n ds P ops Q i l w K := by
  subst hk
  unfold copyOp at h
  split at h
  · rename_i _ d' ags ts ty pos aft gd ho
    split at h
    · rename_i elem b' o' dl' dc b2' o2' sl' sc hu hx hy
      split at h
      · rename_i sz' hsz'
        cases hb : Nat.blt d' n with
        | false => rw [hb] at h; cases h
        | true =>
          rw [hb] at h
          simp only [cond_true, Option.some.injEq, Prod.mk.injEq] at h
          obtain ⟨rfl, rfl, rfl, rfl, rfl, rfl, rfl, rfl⟩ := h
          obtain ⟨inf, hinf, hs⟩ := Option.map_eq_some_iff.1 hsz'
          obtain ⟨w1, hr, hwr⟩ := run_storeCells (P := P) (b := b') (o := o') vs 0 w c e hB (by omega) hone
          refine V1_value ho rfl hb ?_ (next w1 hwr)
          have hload : (loadCells ⟨b2', o2', none⟩ (Nat.min sl' dl' * sz')).run P w = .ok vs.toArray w := run_loadCells' hvs fun j hj => by rw [add_none]; exact hsrc j hj
          obtain ⟨t, ht, hu'⟩ := Option.bind_eq_some_iff.1 hu
          simp only [execOp, resolve, invoke, builtin, Builtin.copy_, Sem.run_bind, Sem.run_pure, Result.andThen_ok, hx, hy, ht, run_underlying' hu', Builtin.lenOf, run_sizeOf hinf, hs, Builtin.firstCells, hload, hr, goInt]
      · cases h
    · cases h
  · cases h
theorem VL_copy {d b o dl b2 o2 sl sz : Nat} {c : Array Value} {e : TypeId} (h : copyOp P n ops l i = some (d, b, o, dl, b2, o2, sl, sz)) (hi : Nat.blt i ops.size = true) (k : Nat) (hk : Nat.min sl dl = k) (vs : List Value) (hvs : vs.length = k * sz) (hsrc : ∀ j, j < k * sz → w.cell? ⟨b2, o2 + j, none⟩ = vs[j]?) (hone : ∀ v ∈ vs, oneC v = true)
    (hB : Own w b c e) (hsz : o + vs.length ≤ c.size) (next : ∀ w1, Wr w w1 b (setRow c o vs) e → VL r n ds P ops Q (i + 1) ((d, .int .i64 (k : Int)) :: l) w1) : VL r n ds P ops Q i l w :=
  VL_of_V1 hi (V1_copy h k hk vs hvs hsrc hone hB hsz next)

/-! ### 4. Bytes as a string -/
def strOf (ns : List Int) : ByteArray := ns.foldl (fun r n => r.push (UInt8.ofNat n.toNat)) ByteArray.empty
theorem strOf_data (ns : List Int) : (strOf ns).data.toList = ns.map fun n => UInt8.ofNat n.toNat := by
  have key : ∀ (ns : List Int) (r : ByteArray), (ns.foldl (fun r n => r.push (UInt8.ofNat n.toNat)) r).data.toList = r.data.toList ++ ns.map fun n => UInt8.ofNat n.toNat := by
    intro ns
    induction ns with
    | nil => intro r; simp
    | cons x xs ih => intro r; rw [List.foldl_cons, ih]; simp [ByteArray.push]
  have := key ns ByteArray.empty
  simpa [strOf] using this
theorem strOf_inj {xs ys : List Int} (hx : ∀ x ∈ xs, 0 ≤ x ∧ x < 256) (hy : ∀ x ∈ ys, 0 ≤ x ∧ x < 256) (h : strOf xs = strOf ys) : xs = ys := by
  have h1 : (xs.map fun n => UInt8.ofNat n.toNat) = ys.map fun n => UInt8.ofNat n.toNat := by rw [← strOf_data, ← strOf_data, h]
  clear h
  induction xs generalizing ys with
  | nil => cases ys with
    | nil => rfl
    | cons y ys => simp at h1
  | cons x xs ih => cases ys with
    | nil => simp at h1
    | cons y ys =>
      simp only [List.map_cons, List.cons.injEq] at h1
      have a := hx x (List.mem_cons_self ..)
      have b := hy y (List.mem_cons_self ..)
      have e : x.toNat = y.toNat := by
        have := congrArg UInt8.toNat h1.1
        simp only [UInt8.toNat_ofNat'] at this
        omega
      rw [ih (fun z hz => hx z (List.mem_cons_of_mem _ hz)) (fun z hz => hy z (List.mem_cons_of_mem _ hz)) h1.2, show x = y by omega]
def strOp (P : Program) (n : Nat) (ops : Array Oper) (l : List (Nat × Value)) (i : Nat) : Option (Nat × Nat × Nat × Nat) :=
  match theOp ops l i with
  | some { dst := some d, op := .convert s t x, .. } =>
    match P.underlying s, P.underlying t, evL l x with
    | some (.slice e), some .string, .slice (some ⟨b, o, none⟩) len _ => match P.underlying e with
      | some (.int .u8) => bif Nat.blt d n then some (d, b, o, len) else none
      | _ => none
    | _, _, _ => none
  | _ => none
theorem V1_str {d b o len : Nat} (h : strOp P n ops l i = some (d, b, o, len)) (ns : List Int) (hn : ns.length = len) (hc : ∀ j, j < len → w.cell? ⟨b, o + j, none⟩ = (ns.map (Value.int .u8))[j]?) (next : K ((d, .string (strOf ns)) :: l) w) : V1 r n ds P ops Q i l w K := by
  unfold strOp at h
  split at h
  · rename_i _ d' s t x ty pos aft gd ho
    split at h
    · rename_i e b' o' len' cap hs ht hx
      split at h
      · rename_i he
        cases hb : Nat.blt d' n with
        | false => rw [hb] at h; cases h
        | true =>
          rw [hb] at h
          simp only [cond_true, Option.some.injEq, Prod.mk.injEq] at h
          obtain ⟨rfl, rfl, rfl, rfl⟩ := h
          refine V1_value ho rfl hb ?_ next
          have hl : (loadCells ⟨b', o', none⟩ len').run P w = .ok (ns.map (Value.int .u8)).toArray w := run_loadCells' (by simp [hn]) fun j hj => by rw [add_none]; exact hc j hj
          simp only [execOp, convert, hx, Sem.run_bind, run_underlying' hs, run_underlying' ht, run_underlying' he, Result.andThen_ok]
          rw [run_bytesToString w _ len' cap ns hl]
          rfl
      · cases h
    · cases h
  · cases h
theorem VL_str {d b o len : Nat} (h : strOp P n ops l i = some (d, b, o, len)) (hi : Nat.blt i ops.size = true) (ns : List Int) (hn : ns.length = len) (hc : ∀ j, j < len → w.cell? ⟨b, o + j, none⟩ = (ns.map (Value.int .u8))[j]?) (next : VL r n ds P ops Q (i + 1) ((d, .string (strOf ns)) :: l) w) : VL r n ds P ops Q i l w :=
  VL_of_V1 hi (V1_str h ns hn hc next)

/-! ### 5. A function without a body -/
theorem V1_extern {d f : Nat} {args : Array Value} {v : Value} {w1 : World} (h : callOp ops l i = some (d, f, args)) (hd : Nat.blt d n = true) (hrun : (callFunc f args).run P w = .ok (.value v) w1) (next : K ((d, v) :: l) w1) : V1 r n ds P ops Q i l w K := by
  unfold callOp at h
  cases ho : ops[i]? with
  | none => rw [ho] at h; cases h
  | some o =>
    rw [ho] at h
    simp only at h
    cases hg : guardOk ops l o with
    | none => rw [hg] at h; simp at h
    | some b =>
      cases b with
      | false => rw [hg] at h; simp at h
      | true =>
        cases hl : listed l o with
        | false => rw [hg, hl] at h; simp at h
        | true =>
          cases hdst : o.dst with
          | none => rw [hg, hl, hdst] at h; simp at h
          | some d' =>
            rw [hg, hl, hdst] at h
            cases hop : o.op <;> simp only [hop, reduceCtorEq] at h
            case call cl =>
              obtain ⟨callee, cargs, ts⟩ := cl
              cases callee <;> (try (simp at h; done))
              case value x =>
                cases hx : evL l x <;> simp only [hx, reduceCtorEq] at h
                case func fn first captured =>
                  cases fn <;> simp only [reduceCtorEq, Option.some.injEq, Prod.mk.injEq] at h
                  case func f' =>
                    obtain ⟨rfl, rfl, hargs⟩ := h
                    refine V1_value (o := o) (by unfold theOp; rw [ho]; simp only [hg, hl]; rfl) hdst hd ?_ next
                    simp only [execOp, hop, resolve, hx, Deferred.ofValue, Sem.run_bind, Sem.run_pure, Result.andThen_ok, invoke]
                    rw [hargs, hrun]
theorem run_extern_noZero {f : Nat} {fn : Func} (hf : P.funcs[f]? = some fn) (hname : (fn.name == "runtime.NumGoroutine") = false) (hb : fn.body.isNone = true) (hn : Extern.findNext fn = none) {t e : TypeId} {ps : Array TypeId} (he : Extern.find fn = some (Extern.BytealgMakeNoZero.makeNoZero ps #[t])) (ht : P.underlying t = some (.slice e)) (m : Nat) (hm : m ≤ 281474976710656) (w : World) :
    ∃ (cs : Array Value) (w1 : World), (callFunc f #[.int .i64 m]).run P w = .ok (.value (.slice (some ⟨w.heap.size, 0, none⟩) m cs.size)) w1 ∧ m ≤ cs.size ∧ Own w1 w.heap.size cs e ∧ Step No w w1 ∧ w1.heap.size = w.heap.size + 1 := by
  obtain ⟨cs, h1, h2, _⟩ := Lib.run_makeNoZero (P := P) w ps t e ht m hm
  refine ⟨cs, w.drew.drew.alloc (.cells cs e), ?_, h2, ?_, ?_, ?_⟩
  · unfold callFunc
    simp only [Sem.run_bind, program, Sem.run, hf, Result.andThen_ok, hname, Bool.false_eq_true, if_false, hb, if_true, mark, hn, he, h1, Sem.run_pure]
  · show (w.heap.push _)[w.heap.size]? = _
    exact Array.getElem?_push_size
  · exact ⟨rfl, rfl, rfl, by show _ ≤ (w.heap.push _).size; simp, fun k hk _ => Below.heap_alloc w.drew.drew _ k hk⟩
  · show (w.heap.push _).size = _; simp

/-! ### 6. Results in memory -/
theorem VQ_retC1 {fn : Func} {S : Value → World → Prop} {t : Nat} {T : TypeId} {a : Addr} (v : Value) {e : Exit} (he : e = .normal ∨ e = .ret) (hr : fn.results = #[.cell t T]) (ha' : look l t = some (.pointer (some a))) (hv : Loads P T w a v) (hS : S v w) : VQ n [] (bodyPost P fn (PostV S)) e l w := by
  intro ac ha
  have : (results fn ac.tmps).run P w = .ok v w := by
    unfold results
    simp [hr, Array.getD_eq_getD_getElem?, ha.get t _ ha', asAddr, show (loadVar T a).run P w = .ok v w from hv]
  rcases he with rfl | rfl <;> exact ⟨ha.defers, _, this, _, rfl, hS⟩
theorem VQ_retC1T1 {fn : Func} {S : Value → World → Prop} {t u : Nat} {T : TypeId} {a : Addr} (v v' : Value) {e : Exit} (he : e = .normal ∨ e = .ret) (hr : fn.results = #[.cell t T, .tmp u]) (ha' : look l t = some (.pointer (some a))) (hu : look l u = some v') (hv : Loads P T w a v) (hS : S (.tuple #[v, v']) w) : VQ n [] (bodyPost P fn (PostV S)) e l w := by
  intro ac ha
  have : (results fn ac.tmps).run P w = .ok (.tuple #[v, v']) w := by
    unfold results
    simp [hr, Array.getD_eq_getD_getElem?, ha.get t _ ha', ha.get u _ hu, asAddr, show (loadVar T a).run P w = .ok v w from hv]
  rcases he with rfl | rfl <;> exact ⟨ha.defers, _, this, _, rfl, hS⟩

/-! ### 7. A loop round by round -/
variable {c : Code}
def LoopIn (r : Option Nat) (P : Program) (Q : Exit → Act → World → Prop) (c : Code) (a : Act) (w : World) : Prop :=
  ∀ (b : Frame) (k : List Item) (cs : List Frame), b.roundOf = (Fx r).round → (Fx r).fn b.fn → (Fx r).room (cs.length + 1 + 0) →
    ∃ e a' w', Q e a' w' ∧ ArrivesIn (Machine.fenced P (Fx r)) P (lone (b.atR a (.code c :: .inLoop c :: k)) cs w) b k cs e a' w'
def VCL (r : Option Nat) (n : Nat) (ds : List Deferred) (P : Program) (Q : Exit → Act → World → Prop) (c : Code) (l : List (Nat × Value)) (w : World) : Prop := ∀ a, Has n ds l a → LoopIn r P Q c a w
theorem VC_rounds (h : VCL r n ds P Q c l w) : VC r n ds P Q (.loop c) l w := by
  intro a ha b k cs hro hb hr
  obtain ⟨e, a', w', hq, harr⟩ := h a ha b k cs hro hb hr
  exact ⟨e, a', w', hq, .of_steps (.one (fenced_calm hb hr rfl) stepR_loop) harr⟩
theorem VCL_round (h : VC r n ds P (Exit.then (LoopIn r P Q c) Q) c l w) : VCL r n ds P Q c l w := by
  intro a ha b k cs hro hb hr
  obtain ⟨e, a₁, w₁, hq, harr⟩ := h a ha b (.inLoop c :: k) cs hro hb hr
  cases e with
  | normal =>
    obtain ⟨e₂, a₂, w₂, hq₂, harr₂⟩ := hq b k cs hro hb hr
    exact ⟨e₂, a₂, w₂, hq₂, .of_steps (StepsIn.trans harr (.one (fenced_calm hb hr rfl) stepR_inLoop)) harr₂⟩
  | exit id => exact ⟨_, a₁, w₁, hq, .pass (x := .inLoop c) rfl (fun _ _ => .inl (by simp)) harr⟩
  | goto l => exact ⟨_, a₁, w₁, hq, .pass (x := .inLoop c) rfl (fun _ _ => .inl (by simp)) harr⟩
  | ret => exact ⟨_, a₁, w₁, hq, .pass (x := .inLoop c) rfl (fun _ _ => .inl (by simp)) harr⟩
  | panic ch => exact ⟨_, a₁, w₁, hq, .pass (x := .inLoop c) rfl (fun _ _ => .inl (by simp)) harr⟩
  | outgrown => exact ⟨_, a₁, w₁, hq, .pass (x := .inLoop c) rfl (fun _ _ => .inl (by simp)) harr⟩
theorem VQ_round (h : VCL r n ds P Q c l w) : VQ n ds (Exit.then (LoopIn r P Q c) Q) .normal l w := h

/-! ### 8. A drawn region whose values are settled, in which some operations turn the world -/
def Eff1 (r : Option Nat) (n : Nat) (ds : List Deferred) (P : Program) (ops : Array Oper) (Q : Exit → Act → World → Prop) (R : World → World → Prop) (B : Nat → World → Prop) (w : World) (l : List (Nat × Value)) (k : Nat) (v : Value) : Prop :=
  V1 r n ds P ops Q k l w fun l' w'' => ((∃ d, dstOf ops k = some d ∧ look l' d = some v) ∨ dstOf ops k = none) ∧ R w w'' ∧ B k w''
theorem VC_eff {id : Nat} (tbl : List (List Nat)) (m : Nat) (vs : List Value) (ks js : List Nat) (R : World → World → Prop) (B : Nat → World → Prop) (hm : P.follows .mixedOrders = true) (hchk : drawChkL n ops tbl m = true) (hcov : allB m (fun k => nmem k ks || nmem k js) = true)
    (hRr : ∀ x, R x x) (hRt : ∀ {x y z}, R x y → R y z → R x z) (hRd : R w w.drew) (hB : ∀ k x y, B k x → R x y → B k y)
    (hpure : (ks.map fun k => pureAt P n ops (lkv ops tbl m l vs k) k) = ks.map fun k => some (vs.getD k undef)) (hBp : ∀ k ∈ ks, ∀ x, B k x)
    (hj : ∀ w1, R w w1 → AncAll (fun k => (∀ j ∈ tb tbl k, B j w1) → Eff1 r n ds P ops Q R B w1 (lkv ops tbl m l vs k) k (vs.getD k undef)) js)
    (tail : ∀ w1, R w w1 → (∀ k, k < m → B k w1) → VL r n ds P ops Q m (lmv ops m l vs) w1) : VC r n ds P Q (.region id ops true) l w := by
  have hc := drawChkL_spec hchk
  have inSlots : ∀ k j d, j ∈ k :: tb tbl k → dstOf ops j = some d → ∀ ρ, rs ops tbl k ρ d = ρ d := by
    intro k j d hj hd ρ
    unfold rs slotsOf
    rw [show nmem d (List.filterMap (dstOf ops) (k :: tb tbl k)) = true from nmem_iff.2 (List.mem_filterMap.2 ⟨j, hj, hd⟩)]
    rfl
  refine VC_anyL tbl m hm hc R hRr hRt (fun j ρ x => (∀ d, dstOf ops j = some d → ρ d = vs.getD j undef) ∧ B j x) (fun j ρ x y h hr => ⟨h.1, hB _ _ _ h.2 hr⟩) (HAll_of fun k hk => ?_) ?_
  · intro ρ w' hs hanc
    have hw' : R w w' := hRt hRd hs
    have hkn : k < ops.size := by have := hc.le; omega
    have hanc' := AncAll_spec hanc
    have hl : lk ops tbl m l k ρ = lkv ops tbl m l vs k := by
      unfold lk lkv
      congr 1
      rw [List.map_filterMap]
      apply filterMap_congr'
      intro j hj
      cases hdj : dstOf ops j with
      | none => rfl
      | some dj =>
        simp only [Option.map_some, Option.some.injEq, Prod.mk.injEq, true_and]
        have := (hanc' j hj).1 dj hdj
        rw [← this, inSlots j j dj (List.mem_cons_self ..) hdj]
    rw [hl]
    have hcv := allB_spec hcov k hk
    simp only [Bool.or_eq_true] at hcv
    have fin : ∀ l' w'', ((∃ d, dstOf ops k = some d ∧ look l' d = some (vs.getD k undef)) ∨ dstOf ops k = none) → R w' w'' → B k w'' → (∃ v d, dstOf ops k = some d ∧ look l' d = some v ∧ R w' w'' ∧ ((∀ d', dstOf ops k = some d' → rs ops tbl k (upd ρ d v) d' = vs.getD k undef) ∧ B k w'')) ∨ (dstOf ops k = none ∧ R w' w'' ∧ ((∀ d', dstOf ops k = some d' → rs ops tbl k ρ d' = vs.getD k undef) ∧ B k w'')) := by
      intro l' w'' hor h3 h4
      rcases hor with ⟨d0, h1, h2⟩ | h1
      · refine .inl ⟨_, d0, h1, h2, h3, fun d' hd' => ?_, h4⟩
        rw [h1] at hd'
        simp only [Option.some.injEq] at hd'
        subst hd'
        rw [inSlots k k d0 (List.mem_cons_self ..) h1]
        simp [upd]
      · exact .inr ⟨h1, h3, fun d' hd' => (by rw [h1] at hd'; cases hd'), h4⟩
    rcases hcv with hk1 | hk2
    · have hp := map_eq_at hpure k (nmem_iff.1 hk1)
      obtain ⟨o, ho⟩ : ∃ o, ops[k]? = some o := ⟨_, Array.getElem?_eq_getElem hkn⟩
      unfold pureAt at hp
      rw [ho] at hp
      cases hod : o.dst with
      | none => simp only [hod] at hp; cases hp
      | some d =>
        simp only [hod] at hp
        cases hdn : Nat.blt d n with
        | false => rw [hdn] at hp; cases hp
        | true =>
          rw [hdn] at hp
          simp only [cond_true] at hp
          exact V1_pure ho hp hod (blt_spec hdn) (fin _ _ (.inl ⟨d, by unfold dstOf; rw [ho]; exact hod, look_head⟩) (hRr _) (hBp k (nmem_iff.1 hk1) _))
    · have h1 := AncAll_spec (hj w' hw') k (nmem_iff.1 hk2) fun j hj' => (hanc' j hj').2
      intro a ha
      refine wpOpIn_mono ?_ (h1 a ha)
      rintro a' w'' ⟨l', hl', h2, h3, h4⟩
      exact ⟨l', hl', fin l' w'' h2 h3 h4⟩
  · intro ρ w' hs hall
    have hl : lm ops m l ρ = lmv ops m l vs := by
      unfold lm lmv
      congr 1
      rw [List.map_filterMap]
      apply filterMap_congr'
      intro j hj
      cases hdj : dstOf ops j with
      | none => rfl
      | some dj =>
        simp only [Option.map_some, Option.some.injEq, Prod.mk.injEq, true_and]
        have := (HAll_spec hall j (List.mem_range.1 hj)).1 dj hdj
        rw [← this, inSlots j j dj (List.mem_cons_self ..) hdj]
    rw [hl]
    exact tail w' (hRt hRd hs) fun k hk => (HAll_spec hall k hk).2

/-- A block whose cells are c0, and are c1 once it was stored to. -/
def ROwn (b : Nat) (T : TypeId) (c0 c1 : Array Value) (x y : World) : Prop := (Own x b c0 T ∨ Own x b c1 T → Own y b c0 T ∨ Own y b c1 T) ∧ (Own x b c1 T → Own y b c1 T) ∧ Step (Just b) x y
theorem ROwn.refl (b : Nat) (T : TypeId) (c0 c1 : Array Value) (x : World) : ROwn b T c0 c1 x x := ⟨id, id, Step.refl _ _⟩
theorem ROwn.trans {b : Nat} {T : TypeId} {c0 c1 : Array Value} {x y z : World} (h : ROwn b T c0 c1 x y) (h' : ROwn b T c0 c1 y z) : ROwn b T c0 c1 x z := ⟨h'.1 ∘ h.1, h'.2.1 ∘ h.2.1, h.2.2.trans h'.2.2⟩
theorem ROwn.no {b : Nat} {T : TypeId} {c0 c1 : Array Value} {x y : World} (h : Step No x y) : ROwn b T c0 c1 x y := ⟨fun h1 => h1.imp (fun h2 => h2.no h) (fun h2 => h2.no h), fun h2 => h2.no h, h.weak⟩
theorem Eff1_no {r : Option Nat} {n : Nat} {ds : List Deferred} {P : Program} {ops : Array Oper} {Q : Exit → Act → World → Prop} {l : List (Nat × Value)} {w : World} {k b : Nat} {T : TypeId} {c0 c1 : Array Value} {B : Nat → World → Prop} {v : Value} (h : Det1 r n ds P ops Q w l k v) (hB : ∀ x, B k x) : Eff1 r n ds P ops Q (ROwn b T c0 c1) B w l k v := by
  intro a ha
  refine wpOpIn_mono ?_ (h a ha)
  rintro a' w'' ⟨l', hl', d, h1, h2, h3⟩
  exact ⟨l', hl', .inl ⟨d, h1, h2⟩, ROwn.no h3, hB _⟩
theorem Eff1_store {r : Option Nat} {n : Nat} {ds : List Deferred} {P : Program} {ops : Array Oper} {Q : Exit → Act → World → Prop} {l : List (Nat × Value)} {w : World} {k b o : Nat} {T : TypeId} {c0 c1 : Array Value} {vs : List Value} {v : Value} (h : storeOp P ops l k = some (b, o, vs)) (hd : dstOf ops k = none) (hI : Own w b c0 T ∨ Own w b c1 T) (h0 : o + vs.length ≤ c0.size) (h1 : o + vs.length ≤ c1.size) (e0 : setRow c0 o vs = c1) (e1 : setRow c1 o vs = c1) :
    Eff1 r n ds P ops Q (ROwn b T c0 c1) (fun j x => j = k → Own x b c1 T) w l k v := by
  rcases hI with hI | hI
  · exact V1_store h hI h0 fun w1 hw => ⟨.inr hd, ⟨fun _ => .inr (hw.own.cast e0), fun _ => hw.own.cast e0, hw.step⟩, fun _ => hw.own.cast e0⟩
  · exact V1_store h hI h1 fun w1 hw => ⟨.inr hd, ⟨fun _ => .inr (hw.own.cast e1), fun _ => hw.own.cast e1, hw.step⟩, fun _ => hw.own.cast e1⟩
end
end Go.Vc
