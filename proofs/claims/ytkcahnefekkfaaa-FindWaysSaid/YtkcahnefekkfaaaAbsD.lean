/- The abstract layer, part D: no statement is proved here; abstract values, heaps and walks, and that the machine does as they say. -/
import Derived.Test.YtkcahnefekkfaaaAbsC
import GoSem.Core.Float
import Derived.Sort.Grow
set_option linter.unusedVariables false
set_option linter.unusedSimpArgs false
set_option linter.unusedSectionVars false
namespace Go.Proofs.YtkcahnefekkfaaaAbs
open Go Go.RowKit
variable [Base]

theorem Sem.pureRun_bind {α β : Type} {P : Program} (s : Sem α) (f : α → Sem β) : Sem.pureRun P (s >>= f) = (Sem.pureRun P s).bind fun a => Sem.pureRun P (f a) := by
  show Sem.pureRun P (Sem.bind s f) = _
  induction s with
  | pure a => rfl
  | program k ih => exact ih P
  | mark m k ih => exact ih
  | _ => rfl

/-- Kinds of leaves. -/
def fitsK : LK → Value → Bool
  | .int k, .int k' _ => decide (k = k')
  | .bool, .bool _ => true
  | .str, .string _ => true
  | _, _ => false
def fitsB : List LK → List Value → Bool
  | [], [] => true
  | k :: ks, v :: vs => fitsK k v && fitsB ks vs
  | _, _ => false
def cellEq : Value → Value → Bool
  | .int _ a, .int _ b => decide (a = b)
  | .bool a, .bool b => decide (a = b)
  | .string a, .string b => a == b
  | _, _ => false
def cellsEq : List Value → List Value → Bool
  | [], [] => true
  | x :: xs, y :: ys => cellEq x y && cellsEq xs ys
  | _, _ => false
def eqFields (ck : TypeId → Option (List LK)) : List Field → Nat → Option (List LK)
  | [], _ => some []
  | f :: r, off => if f.offset = off ∧ (f.name == "_") = false then match ck f.type with
      | some ks => if 0 < ks.length then (eqFields ck r (off + ks.length)).map (ks ++ ·) else none
      | none => none
    else none
def eqArr (n : Nat) (ks : List LK) : List LK := (List.replicate n ks).flatten
/-- The kinds of a type's leaves, if it can be compared leaf by leaf. -/
def eqK (P : Program) : Nat → TypeId → Option (List LK)
  | 0, _ => none
  | d + 1, t => match P.underlying t with
    | some (.int k) => if tagg P t = some false ∧ tsize P t = some 1 then some [.int k] else none
    | some .bool => if tagg P t = some false ∧ tsize P t = some 1 then some [.bool] else none
    | some .string => if tagg P t = some false ∧ tsize P t = some 1 then some [.str] else none
    | some (.struct fs) => if P.stoodInHeld t = false ∧ tagg P t = some true then match eqFields (eqK P d) fs.toList 0 with
        | some ks => if tsize P t = some ks.length then some ks else none
        | none => none
      else none
    | some (.array n el) => if tagg P t = some true then match eqK P d el with
        | some ks => if 0 < ks.length ∧ tsize P t = some (eqArr n ks).length then some (eqArr n ks) else none
        | none => none
      else none
    | _ => none
def eqOk (P : Program) (t : TypeId) : Option (List LK) := if P.eqGuardType P.depth t = false then eqK P 9 t else none

theorem fitsB_len : ∀ {ks : List LK} {vs : List Value}, fitsB ks vs = true → ks.length = vs.length
  | [], [], _ => rfl
  | [], _ :: _, h => by cases h
  | _ :: _, [], h => by cases h
  | k :: ks, v :: vs, h => by simp only [fitsB, Bool.and_eq_true] at h; simp [fitsB_len h.2]
theorem fitsB_append : ∀ {ks ks' : List LK} {vs : List Value}, fitsB (ks ++ ks') vs = true → fitsB ks (vs.take ks.length) = true ∧ fitsB ks' (vs.drop ks.length) = true
  | [], ks', vs, h => by simpa [fitsB] using h
  | k :: ks, ks', [], h => by cases h
  | k :: ks, ks', v :: vs, h => by
    simp only [List.cons_append, fitsB, Bool.and_eq_true] at h
    have := fitsB_append h.2
    simp [fitsB, h.1, this.1, this.2]
theorem cellsEq_append : ∀ {xs xs' ys ys' : List Value}, xs.length = ys.length → cellsEq (xs ++ xs') (ys ++ ys') = (cellsEq xs ys && cellsEq xs' ys')
  | [], xs', [], ys', _ => by simp [cellsEq]
  | x :: xs, xs', y :: ys, ys', h => by simp [cellsEq, cellsEq_append (xs := xs) (ys := ys) (by simpa using h), Bool.and_assoc]
  | [], _, _ :: _, _, h => by simp at h
  | _ :: _, _, [], _, h => by simp at h
/-- A value of so many cells. -/
def ofCells (ag : Bool) (cs : List Value) : Value := if ag then .agg cs.toArray else cs.getD 0 undef

section
variable {P : Program}
theorem pure_underlying {t : TypeId} {d : TypeDesc} (h : P.underlying t = some d) : Sem.pureRun P (underlying t) = some d := by
  simp only [underlying]
  show Sem.pureRun P (match P.underlying t with | some d => pure d | none => stuck "no such type") = _
  rw [h]; rfl
theorem pure_size {t k : Nat} (h : tsize P t = some k) : Sem.pureRun P (sizeOf t) = some k := by
  simp only [tsize, Option.map_eq_some_iff] at h
  obtain ⟨i, hi, rfl⟩ := h
  simp only [sizeOf, typeInfo, Sem.pureRun_bind]
  show ((Sem.pureRun P (match P.info? t with | some i => pure i | none => stuck "no such type")).bind _) = _
  rw [hi]; rfl
theorem pure_isAgg {t : TypeId} {b : Bool} (h : tagg P t = some b) : Sem.pureRun P (isAgg t) = some b := by
  unfold tagg at h
  cases hu : P.underlying t with
  | none => rw [hu] at h; cases h
  | some d =>
    rw [hu] at h
    simp only [Option.map_some, Option.some.injEq] at h
    simp only [isAgg, Sem.pureRun_bind, pure_underlying hu, Option.bind_some]
    cases d <;> simp [isAggD] at h <;> subst h <;> rfl
theorem pure_part {t k off : Nat} {ag : Bool} {cs : List Value} (ha : tagg P t = some ag) (hk : tsize P t = some k) (h1 : off + k ≤ cs.length) (h2 : ag = false → k = 1) : Sem.pureRun P (part t cs.toArray off) = some (ofCells ag ((cs.drop off).take k)) := by
  simp only [part, Sem.pureRun_bind, pure_isAgg ha, Option.bind_some]
  cases ag with
  | true =>
    simp only [if_true, Sem.pureRun_bind, pure_size hk, Option.bind_some, Sem.pureRun_pure, ofCells, List.extract_toArray]
    simp [List.extract_eq_take_drop]
  | false =>
    have := h2 rfl
    subst this
    have hlt : off < cs.length := by omega
    simp only [Bool.false_eq_true, if_false, ofCells]
    rw [List.getElem?_toArray, List.getElem?_eq_getElem hlt]
    simp [Sem.pureRun_pure, hlt]

theorem loop_run {α : Type} {body : α → Option Bool × Unit → Sem (ForInStep (Option Bool × Unit))} {bs : α → Bool} {stop : Bool} : ∀ (fs : List α),
    (∀ f ∈ fs, Sem.pureRun P (body f (none, ())) = some (if bs f = true then .done (some stop, ()) else .yield (none, ()))) →
    Sem.pureRun P (forIn fs ((none, ()) : Option Bool × Unit) body) = some (if fs.any bs = true then (some stop, ()) else (none, ()))
  | [], _ => rfl
  | f :: fs, h => by
    rw [List.forIn_cons, Sem.pureRun_bind, h f (by simp)]
    by_cases hb : bs f = true
    · simp [hb, Sem.pureRun_pure]
    · simp only [hb, Bool.false_eq_true, if_false, Option.bind_some]
      rw [loop_run fs fun f' hf' => h f' (by simp [hf'])]
      simp [hb]
theorem eqK_size {d : Nat} {t : TypeId} {ks : List LK} (h : eqK P d t = some ks) : tsize P t = some ks.length ∧ ∃ ag, tagg P t = some ag ∧ (ag = false → ks.length = 1) := by
  cases d with
  | zero => cases h
  | succ d =>
    simp only [eqK] at h
    split at h
    · split at h
      · rename_i hc; cases h; exact ⟨hc.2, _, hc.1, fun _ => rfl⟩
      · cases h
    · split at h
      · rename_i hc; cases h; exact ⟨hc.2, _, hc.1, fun _ => rfl⟩
      · cases h
    · split at h
      · rename_i hc; cases h; exact ⟨hc.2, _, hc.1, fun _ => rfl⟩
      · cases h
    · split at h
      · rename_i hc
        split at h
        · split at h
          · rename_i hs; cases h; exact ⟨hs, _, hc.2, fun e => by cases e⟩
          · cases h
        · cases h
      · cases h
    · split at h
      · rename_i hc
        split at h
        · split at h
          · rename_i hs; cases h; exact ⟨hs.2, _, hc, fun e => by cases e⟩
          · cases h
        · cases h
      · cases h
    · cases h
theorem drop_take_append {xs : List Value} (off a : Nat) : xs.drop off = (xs.drop off).take a ++ xs.drop (off + a) := by
  rw [← List.drop_drop, List.take_append_drop]
def lenF (ck : TypeId → Option (List LK)) (t : TypeId) : Nat := ((ck t).map List.length).getD 0
theorem fields_eq {ck : TypeId → Option (List LK)} {xs ys : List Value} (hl : xs.length = ys.length) : ∀ (fs : List Field) (off : Nat) (ks : List LK), eqFields ck fs off = some ks → fitsB ks (xs.drop off) = true → fitsB ks (ys.drop off) = true →
    (∀ f ∈ fs, ∃ kf, ck f.type = some kf ∧ (f.name == "_") = false ∧ f.offset + kf.length ≤ xs.length ∧ fitsB kf ((xs.drop f.offset).take kf.length) = true ∧ fitsB kf ((ys.drop f.offset).take kf.length) = true) ∧
    fs.any (fun f => !cellsEq ((xs.drop f.offset).take (lenF ck f.type)) ((ys.drop f.offset).take (lenF ck f.type))) = !cellsEq (xs.drop off) (ys.drop off)
  | [], off, ks, h, hx, hy => by
    simp only [eqFields, Option.some.injEq] at h
    subst h
    have h1 := fitsB_len hx
    have h2 := fitsB_len hy
    have e1 : xs.drop off = [] := List.eq_nil_of_length_eq_zero h1.symm
    have e2 : ys.drop off = [] := List.eq_nil_of_length_eq_zero h2.symm
    rw [e1, e2]
    exact ⟨(fun f hf => by cases hf), rfl⟩
  | f :: fs, off, ks, h, hx, hy => by
    simp only [eqFields] at h
    split at h
    · rename_i hc
      obtain ⟨ho, hn⟩ := hc
      subst ho
      split at h
      · rename_i kf hk
        split at h
        · rename_i hpos
          simp only [Option.map_eq_some_iff] at h
          obtain ⟨k2, h2, rfl⟩ := h
          obtain ⟨x1, x2⟩ := fitsB_append hx
          obtain ⟨y1, y2⟩ := fitsB_append hy
          rw [List.drop_drop] at x2 y2
          obtain ⟨i1, i2⟩ := fields_eq hl fs (f.offset + kf.length) k2 h2 x2 y2
          have hlx := fitsB_len x1
          rw [List.length_take, List.length_drop] at hlx
          refine ⟨fun f' hf' => ?_, ?_⟩
          · rcases List.mem_cons.1 hf' with rfl | hf'
            · exact ⟨kf, hk, hn, by omega, x1, y1⟩
            · exact i1 f' hf'
          · rw [List.any_cons, i2]
            have e : lenF ck f.type = kf.length := by simp [lenF, hk]
            rw [e, drop_take_append (xs := xs) f.offset kf.length, drop_take_append (xs := ys) f.offset kf.length, cellsEq_append (by rw [List.length_take, List.length_take, List.length_drop, List.length_drop, hl])]
            rw [← drop_take_append, ← drop_take_append, Bool.not_and]
        · cases h
      · cases h
    · cases h
theorem arr_eq {k : List LK} (hk : 0 < k.length) {xs ys : List Value} (hl : xs.length = ys.length) : ∀ (n i0 : Nat), fitsB (eqArr n k) (xs.drop (i0 * k.length)) = true → fitsB (eqArr n k) (ys.drop (i0 * k.length)) = true →
    (∀ i, i0 ≤ i → i < i0 + n → i * k.length + k.length ≤ xs.length ∧ fitsB k ((xs.drop (i * k.length)).take k.length) = true ∧ fitsB k ((ys.drop (i * k.length)).take k.length) = true) ∧
    (List.range' i0 n).any (fun i => !cellsEq ((xs.drop (i * k.length)).take k.length) ((ys.drop (i * k.length)).take k.length)) = !cellsEq (xs.drop (i0 * k.length)) (ys.drop (i0 * k.length))
  | 0, i0, hx, hy => by
    have h1 := fitsB_len hx
    have h2 := fitsB_len hy
    have e1 : xs.drop (i0 * k.length) = [] := List.eq_nil_of_length_eq_zero (by rw [← h1]; rfl)
    have e2 : ys.drop (i0 * k.length) = [] := List.eq_nil_of_length_eq_zero (by rw [← h2]; rfl)
    rw [e1, e2]
    exact ⟨(fun i h1 h2 => by omega), rfl⟩
  | n + 1, i0, hx, hy => by
    have e0 : eqArr (n + 1) k = k ++ eqArr n k := by simp [eqArr, List.replicate_succ]
    rw [e0] at hx hy
    obtain ⟨x1, x2⟩ := fitsB_append hx
    obtain ⟨y1, y2⟩ := fitsB_append hy
    rw [List.drop_drop, ← Nat.succ_mul] at x2 y2
    obtain ⟨i1, i2⟩ := arr_eq hk hl n (i0 + 1) x2 y2
    have hlx := fitsB_len x1
    rw [List.length_take, List.length_drop] at hlx
    refine ⟨fun i h1 h2 => ?_, ?_⟩
    · by_cases e : i = i0
      · subst e; exact ⟨by omega, x1, y1⟩
      · exact i1 i (by omega) (by omega)
    · rw [List.range'_succ, List.any_cons, i2]
      rw [drop_take_append (xs := xs) (i0 * k.length) k.length, drop_take_append (xs := ys) (i0 * k.length) k.length, cellsEq_append (by rw [List.length_take, List.length_take, List.length_drop, List.length_drop, hl])]
      rw [← drop_take_append, ← drop_take_append, Bool.not_and, Nat.succ_mul]
theorem eqIn_run : ∀ (d D : Nat) (t : TypeId) (ks : List LK) (xs ys : List Value), d ≤ D → eqK P d t = some ks → fitsB ks xs = true → fitsB ks ys = true → ∀ ag, tagg P t = some ag →
    Sem.pureRun P (Op.equalIn D t (ofCells ag xs) (ofCells ag ys)) = some (cellsEq xs ys)
  | 0, D, t, ks, xs, ys, _, h, _, _ => by cases h
  | d + 1, 0, t, ks, xs, ys, hD, h, _, _ => by omega
  | d + 1, D + 1, t, ks, xs, ys, hD, h, hx, hy => by
    intro ag hag
    have hxy : xs.length = ys.length := by rw [← fitsB_len hx, fitsB_len hy]
    have leaf : ∀ k, ks = [k] → ∃ x y, xs = [x] ∧ ys = [y] ∧ fitsK k x = true ∧ fitsK k y = true := fun k e => by
      subst e
      match xs, ys, hx, hy with
      | [x], [y], hx, hy => simp only [fitsB, Bool.and_true] at hx hy; exact ⟨x, y, rfl, rfl, hx, hy⟩
      | [], _, hx, _ => cases hx
      | _ :: _ :: _, _, hx, _ => simp [fitsB] at hx
      | [_], [], _, hy => cases hy
      | [_], _ :: _ :: _, _, hy => simp [fitsB] at hy
    simp only [eqK] at h
    split at h
    · rename_i k hu
      split at h
      · rename_i hc
        cases h
        obtain ⟨x, y, rfl, rfl, h1, h2⟩ := leaf _ rfl
        rw [hc.1] at hag; cases hag
        cases x <;> simp [fitsK] at h1
        cases y <;> simp [fitsK] at h2
        subst h1; subst h2
        simp [ofCells, Op.equalIn, Sem.pureRun_bind, pure_underlying hu, Sem.pureRun_pure, cellsEq, cellEq]
        rfl
      · cases h
    · rename_i hu
      split at h
      · rename_i hc
        cases h
        obtain ⟨x, y, rfl, rfl, h1, h2⟩ := leaf _ rfl
        rw [hc.1] at hag; cases hag
        cases x <;> simp [fitsK] at h1
        cases y <;> simp [fitsK] at h2
        simp [ofCells, Op.equalIn, Sem.pureRun_bind, pure_underlying hu, Sem.pureRun_pure, cellsEq, cellEq]
        try rfl
      · cases h
    · rename_i hu
      split at h
      · rename_i hc
        cases h
        obtain ⟨x, y, rfl, rfl, h1, h2⟩ := leaf _ rfl
        rw [hc.1] at hag; cases hag
        cases x <;> simp [fitsK] at h1
        cases y <;> simp [fitsK] at h2
        simp [ofCells, Op.equalIn, Sem.pureRun_bind, pure_underlying hu, Sem.pureRun_pure, cellsEq, cellEq]
        try rfl
      · cases h
    · rename_i fs hu
      split at h
      · rename_i hc
        obtain ⟨hst, ha⟩ := hc
        rw [ha] at hag; cases hag
        split at h
        · rename_i ks' hk
          split at h
          · cases h
            obtain ⟨i1, i2⟩ := fields_eq hxy fs.toList 0 ks hk hx hy
            have hprog : Sem.pureRun P (program : Sem Program) = some P := rfl
            simp only [ofCells, if_true, Op.equalIn, Sem.pureRun_bind, pure_underlying hu, Option.bind_some, hprog, hst, Bool.false_eq_true, if_false]
            rw [← Array.forIn_toList, loop_run (stop := false) fs.toList (bs := fun f => !cellsEq ((xs.drop f.offset).take (lenF (eqK P d) f.type)) ((ys.drop f.offset).take (lenF (eqK P d) f.type)))]
            · rw [i2]
              simp only [List.drop_zero, Option.bind_some]
              cases cellsEq xs ys <;> rfl
            · intro f hf
              obtain ⟨kf, h1, h2, h3, h4, h5⟩ := i1 f hf
              obtain ⟨s1, ag', s2, s3⟩ := eqK_size h1
              have hne : f.name ≠ "_" := by simpa using h2
              have e : lenF (eqK P d) f.type = kf.length := by simp [lenF, h1]
              have ih := eqIn_run d D f.type kf _ _ (by omega) h1 h4 h5 ag' s2
              simp only [hne, ne_eq, not_false_eq_true, if_true, Sem.pureRun_bind, pure_part s2 s1 h3 s3, pure_part s2 s1 (hxy ▸ h3) s3, Option.bind_some, ih, e]
              cases cellsEq ((xs.drop f.offset).take kf.length) ((ys.drop f.offset).take kf.length) <;> rfl
          · cases h
        · cases h
      · cases h
    · rename_i n el hu
      split at h
      · rename_i ha
        rw [ha] at hag; cases hag
        split at h
        · rename_i k hk
          split at h
          · rename_i hc
            cases h
            obtain ⟨i1, i2⟩ := arr_eq hc.1 hxy n 0 (by simpa using hx) (by simpa using hy)
            obtain ⟨s1, ag', s2, s3⟩ := eqK_size hk
            simp only [ofCells, if_true, Op.equalIn, Sem.pureRun_bind, pure_underlying hu, Option.bind_some, pure_size s1]
            simp only [Std.Legacy.Range.forIn_eq_forIn_range', Std.Legacy.Range.size, Nat.sub_zero, Nat.add_sub_cancel, Nat.div_one]
            rw [loop_run (stop := false) (List.range' 0 n) (bs := fun i => !cellsEq ((xs.drop (i * k.length)).take k.length) ((ys.drop (i * k.length)).take k.length))]
            · rw [i2]
              simp only [Nat.zero_mul, List.drop_zero, Option.bind_some]
              cases cellsEq xs ys <;> rfl
            · intro i hi
              obtain ⟨h3, h4, h5⟩ := i1 i (Nat.zero_le _) (by simpa using (List.mem_range'.1 hi))
              have ih := eqIn_run d D el k _ _ (by omega) hk h4 h5 ag' s2
              simp only [Sem.pureRun_bind, pure_part s2 s1 h3 s3, pure_part s2 s1 (hxy ▸ h3) s3, Option.bind_some, ih]
              cases cellsEq ((xs.drop (i * k.length)).take k.length) ((ys.drop (i * k.length)).take k.length) <;> rfl
          · cases h
        · cases h
      · cases h
    · cases h
theorem flat_of_fits : ∀ {ks : List LK} {xs : List Value}, fitsB ks xs = true → xs.all flatV = true
  | [], [], _ => rfl
  | [], _ :: _, h => by cases h
  | _ :: _, [], h => by cases h
  | k :: ks, x :: xs, h => by
    simp only [fitsB, Bool.and_eq_true] at h
    rw [List.all_cons, flat_of_fits h.2, Bool.and_true]
    cases k <;> cases x <;> simp [fitsK] at h <;> rfl
theorem eqGuard_run {op : BinOp} {t : TypeId} {xo yo : Operand} {xs ys : Array Value} (h : P.eqGuardType P.depth t = false) : Sem.pureRun P (eqGuard op t xo yo (.agg xs) (.agg ys)) = some () := by
  have hprog : Sem.pureRun P (program : Sem Program) = some P := rfl
  unfold eqGuard
  cases op <;> simp [Sem.pureRun_bind, hprog, h, Sem.pureRun_pure] <;> rfl
theorem eqOk_run {t : TypeId} {ks : List LK} {xs ys : List Value} (h : eqOk P t = some ks) (ha : tagg P t = some true) (hx : fitsB ks xs = true) (hy : fitsB ks ys = true) : P.eqGuardType P.depth t = false ∧ Sem.pureRun P (Op.equal t (.agg xs.toArray) (.agg ys.toArray)) = some (cellsEq xs ys) := by
  unfold eqOk at h
  split at h
  · rename_i hg
    exact ⟨hg, eqIn_run 9 Op.maxDepth t ks xs ys (by decide) h hx hy true ha⟩
  · cases h
/-- **== between structs, arrays.** -/
theorem bin_eql_agg {t : TypeId} {ks : List LK} (h : eqOk P t = some ks) (ha : tagg P t = some true) {xo yo : Operand} {xs ys : List Value} (hx : fitsB ks xs = true) (hy : fitsB ks ys = true) : aBin P .eql t xo yo (.agg xs.toArray) (.agg ys.toArray) = some (.bool (cellsEq xs ys)) := by
  obtain ⟨hg, he⟩ := eqOk_run h ha hx hy
  have px : pureV (.agg xs.toArray) = true := flat_of_fits hx
  have py : pureV (.agg ys.toArray) = true := flat_of_fits hy
  simp only [aBin, px, py, and_self, if_true, pureFlat, Sem.pureRun_bind, eqGuard_run hg, Option.bind_some, binOp, he, Sem.pureRun_pure]
  rfl
theorem bin_neq_agg {t : TypeId} {ks : List LK} (h : eqOk P t = some ks) (ha : tagg P t = some true) {xo yo : Operand} {xs ys : List Value} (hx : fitsB ks xs = true) (hy : fitsB ks ys = true) : aBin P .neq t xo yo (.agg xs.toArray) (.agg ys.toArray) = some (.bool (!cellsEq xs ys)) := by
  obtain ⟨hg, he⟩ := eqOk_run h ha hx hy
  have px : pureV (.agg xs.toArray) = true := flat_of_fits hx
  have py : pureV (.agg ys.toArray) = true := flat_of_fits hy
  simp only [aBin, px, py, and_self, if_true, pureFlat, Sem.pureRun_bind, eqGuard_run hg, Option.bind_some, binOp, he, Sem.pureRun_pure]
  rfl
/-- == between bools, between texts. -/
theorem bin_eql_bool {t : TypeId} {xo yo : Operand} {a b : Bool} (hu : P.underlying t = some .bool) : aBin P .eql t xo yo (.bool a) (.bool b) = some (.bool (a == b)) := by
  have he : Sem.pureRun P (Op.equal t (.bool a) (.bool b)) = some (a == b) := by
    rw [equal_unf]
    unfold Op.equalIn
    simp [Sem.pureRun_bind, pure_underlying hu, Sem.pureRun_pure]
  have hg : Sem.pureRun P (eqGuard .eql t xo yo (.bool a) (.bool b)) = some () := rfl
  simp only [aBin, show pureV (.bool a) = true from rfl, show pureV (.bool b) = true from rfl, and_self, if_true, pureFlat, Sem.pureRun_bind, hg, Option.bind_some, binOp, he, Sem.pureRun_pure]
  rfl
theorem bin_neq_bool {t : TypeId} {xo yo : Operand} {a b : Bool} (hu : P.underlying t = some .bool) : aBin P .neq t xo yo (.bool a) (.bool b) = some (.bool (!(a == b))) := by
  have he : Sem.pureRun P (Op.equal t (.bool a) (.bool b)) = some (a == b) := by
    rw [equal_unf]
    unfold Op.equalIn
    simp [Sem.pureRun_bind, pure_underlying hu, Sem.pureRun_pure]
  have hg : Sem.pureRun P (eqGuard .neq t xo yo (.bool a) (.bool b)) = some () := rfl
  simp only [aBin, show pureV (.bool a) = true from rfl, show pureV (.bool b) = true from rfl, and_self, if_true, pureFlat, Sem.pureRun_bind, hg, Option.bind_some, binOp, he, Sem.pureRun_pure]
  rfl
theorem fitsB_nil : fitsB [] [] = true := rfl
theorem fitsB_cons (k : LK) (ks : List LK) (v : Value) (vs : List Value) : fitsB (k :: ks) (v :: vs) = (fitsK k v && fitsB ks vs) := rfl
theorem fitsK_int (k : IntKind) (n : Int) : fitsK (.int k) (.int k n) = true := by simp [fitsK]
theorem fitsK_bool (b : Bool) : fitsK .bool (.bool b) = true := rfl
theorem fitsK_str (b : ByteArray) : fitsK .str (.string b) = true := rfl
theorem fitsK_U (w : BitVec 64) : fitsK (.int .u64) (U w) = true := rfl
theorem cellsEq_nil : cellsEq [] [] = true := rfl
theorem cellsEq_cons (x y : Value) (xs ys : List Value) : cellsEq (x :: xs) (y :: ys) = (cellEq x y && cellsEq xs ys) := rfl
theorem cellEq_int (k k' : IntKind) (a b : Int) : cellEq (.int k a) (.int k' b) = decide (a = b) := rfl
theorem cellEq_bool (a b : Bool) : cellEq (.bool a) (.bool b) = decide (a = b) := rfl
theorem cellEq_string (a b : ByteArray) : cellEq (.string a) (.string b) = (a == b) := rfl
theorem cellEq_U (x y : BitVec 64) : cellEq (U x) (U y) = decide (x = y) := by
  unfold U
  simp only [cellEq, decide_eq_decide, Int.ofNat_inj]
  exact ⟨BitVec.eq_of_toNat_eq, fun h => by rw [h]⟩
end
end Go.Proofs.YtkcahnefekkfaaaAbs

namespace Go.Proofs.YtkcahnefekkfaaaAbs
open Go Go.RowKit
variable [Base]
/-- A leaf, its block's number moved. -/
def mv1 (n : Nat) : Value → Value
  | .pointer (some ⟨b, o, none⟩) => .pointer (some ⟨n + b, o, none⟩)
  | .slice (some ⟨b, o, none⟩) k e => .slice (some ⟨n + b, o, none⟩) k e
  | .map (some b) => .map (some (n + b))
  | v => v
def mv2 (n : Nat) : Value → Value
  | .agg xs => .agg (xs.toList.map (mv1 n)).toArray
  | v => mv1 n v
def mvV (n : Nat) : Value → Value
  | .tuple xs => .tuple (xs.toList.map (mv2 n)).toArray
  | v => mv2 n v
def mvO (n : Nat) : AObj → AObj
  | .row cs r => .row (cs.map (mv1 n)) r
  | .map es => .map (es.map fun p => (mv1 n p.1, mv1 n p.2))
  | .iter s p => .iter s p
/-- It may be moved. -/
def okMv1 : Value → Bool
  | .pointer (some ⟨_, _, none⟩) => true
  | .slice (some ⟨_, _, none⟩) _ _ => true
  | .map (some _) => true
  | v => flatV v
def okMv2 : Value → Bool
  | .agg xs => xs.toList.all okMv1
  | v => okMv1 v
def okMv : Value → Bool
  | .tuple xs => xs.toList.all okMv2
  | v => okMv2 v
def okMvO : AObj → Bool
  | .row cs _ => cs.all okMv1
  | .map es => es.all fun p => okMv1 p.1 && okMv1 p.2
  | .iter _ _ => true
section
variable {ρ ρ2 : Nat → Option Nat} {sz : Nat → Nat} {n : Nat}
theorem mv1_rel (h : ∀ i b, ρ i = some b → ρ2 (n + i) = some b) {v cv : Value} (hk : okMv1 v = true) (hv : VRel ρ sz v cv) : VRel ρ2 sz (mv1 n v) cv := by
  unfold okMv1 at hk
  split at hk
  · cases hv with | ptr _ _ b' hb => exact .ptr _ _ _ (h _ _ hb)
  · cases hv with
    | slice _ _ _ _ b' c hb h1 h2 => exact .slice _ _ _ _ _ _ (h _ _ hb) h1 h2
    | sliceLost _ _ _ _ hs => cases hs
    | sliceFull _ _ _ hs => cases hs
  · cases hv with | map _ b' hb => exact .map _ _ (h _ _ hb)
  · rename_i h1 h2 h3
    have e : mv1 n v = v := by
      unfold mv1
      split
      · exact absurd rfl (h1 _ _)
      · exact absurd rfl (h2 _ _ _ _)
      · exact absurd rfl (h3 _)
      · rfl
    rw [e, flat_eq hv hk]; exact flatV_rel hk
theorem mv1s_rel (h : ∀ i b, ρ i = some b → ρ2 (n + i) = some b) {vs cvs : List Value} (hk : vs.all okMv1 = true) (hv : VRs ρ sz vs cvs) : VRs ρ2 sz (vs.map (mv1 n)) cvs :=
  ⟨by simp [hv.len], fun i h1 h2 => by
    rw [List.getElem_map]
    exact mv1_rel h (List.all_eq_true.1 hk _ (List.getElem_mem _)) (hv.at_ i (by simpa using h1) h2)⟩
theorem mv2_rel (h : ∀ i b, ρ i = some b → ρ2 (n + i) = some b) {v cv : Value} (hk : okMv2 v = true) (hv : VRel ρ sz v cv) : VRel ρ2 sz (mv2 n v) cv := by
  unfold okMv2 at hk
  split at hk
  · obtain ⟨ys, rfl, hs⟩ := hv.agg_inv
    exact .agg' (mv1s_rel h hk hs)
  · rename_i h1
    have e : mv2 n v = mv1 n v := by
      unfold mv2; split
      · exact absurd rfl (h1 _)
      · rfl
    rw [e]; exact mv1_rel h hk hv
theorem mvV_rel (h : ∀ i b, ρ i = some b → ρ2 (n + i) = some b) {v cv : Value} (hk : okMv v = true) (hv : VRel ρ sz v cv) : VRel ρ2 sz (mvV n v) cv := by
  unfold okMv at hk
  split at hk
  · obtain ⟨ys, rfl, hs⟩ := hv.tuple_inv
    refine .tuple' ⟨by simp [hs.len], fun i h1 h2 => ?_⟩
    simp only [List.getElem_map]
    exact mv2_rel h (List.all_eq_true.1 hk _ (List.getElem_mem _)) (hs.at_ i (by simpa using h1) h2)
  · rename_i h1
    have e : mvV n v = mv2 n v := by
      unfold mvV; split
      · exact absurd rfl (h1 _)
      · rfl
    rw [e]; exact mv2_rel h hk hv
theorem mvO_rel (h : ∀ i b, ρ i = some b → ρ2 (n + i) = some b) {o : AObj} {co : Obj} (hk : okMvO o = true) (hv : ORel ρ sz o co) : ORel ρ2 sz (mvO n o) co := by
  cases hv with
  | row cs rw c t fr hrw hl hs => exact .row _ _ _ _ _ hrw (by simpa using hl) (by rw [List.length_map]; exact mv1s_rel h hk hs)
  | map es ces clock hl hs =>
    refine .map _ _ _ (by simpa using hl) fun i h1 h2 => ?_
    have hi : i < es.length := by simpa using h1
    have hke := List.all_eq_true.1 hk es[i] (List.getElem_mem hi)
    simp only [Bool.and_eq_true] at hke
    simp only [List.getElem_map]
    exact ⟨mv1_rel h hke.1 (hs i hi h2).1, mv1_rel h hke.2 (hs i hi h2).2⟩
  | iter s p => exact .iter s p
end
/-- The heap, numbers moved. -/
def mvG (n : Nat) (g : AMem) : AMem := fun i => if n ≤ i then (g (i - n)).map (mvO n) else none
theorem FnC.moved {P : Program} {f : FuncId} {args : List Value} {v : Value} {touch : Nat → Prop} {g' : AMem} {n' : Nat} (h : FnC P f args (fun _ => none) 0 touch v g' n') (ha : args.all pureV = true) (hv : okMv v = true) (hg : ∀ i o, g' i = some o → okMvO o = true) (n : Nat) :
    FnC P f args (fun _ => none) n (fun _ => False) (mvV n v) (mvG n g') (n + n') := by
  intro ρ w cargs hbase hrep hargs
  have hrep0 : GRep (fun _ => none) (fun _ => none) 0 w := ⟨fun i o hi => by simp at hi, fun i j b hi => absurd rfl hi, fun i _ => rfl, fun i b hi => by simp at hi⟩
  have hargs0 : VRs (fun _ => none) (szOf w) args cargs.toList := ⟨hargs.len, fun i h1 h2 => by
    have hp := List.all_eq_true.1 ha _ (List.getElem_mem h1)
    have := pure_eq (hargs.at_ i h1 h2) hp
    rw [this]; exact pureV_rel hp⟩
  refine (h _ w cargs ⟨hbase.base, fun i b hi => by omega⟩ hrep0 hargs0).mono fun e w' he => ?_
  obtain ⟨cv, ρ', rfl, ht⟩ := he
  have hfr : Frame0 (fun _ => False) w w' := ht.frame.mono fun b _ ⟨i, hi, _⟩ => by omega
  let ρ2 : Nat → Option Nat := fun i => if n ≤ i then ρ' (i - n) else ρ i
  have hin : ∀ i, n ≤ i → ρ2 i = ρ' (i - n) := fun i hi => if_pos hi
  have hout : ∀ i, i < n → ρ2 i = ρ i := fun i hi => if_neg (by omega)
  have hmv : ∀ i b, ρ' i = some b → ρ2 (n + i) = some b := fun i b hi => by rw [hin _ (by omega), show n + i - n = i by omega]; exact hi
  have hnew : ∀ j b, ρ' j = some b → w.heap.size ≤ b := fun j b hj => by
    rcases ht.fresh j b (Nat.zero_le _) hj with h1 | ⟨i, hi, _⟩
    · exact h1
    · omega
  refine ⟨cv, ρ2, rfl, mvV_rel hmv hv ht.val, ⟨fun i o hi => ?_, fun i j b hi hj h1 h2 => ?_, fun i hi => ?_, fun i b hi => ?_⟩, by omega, fun i hi => hout i hi, hfr.mono fun b _ h => h.elim, fun j b hj hb => ?_, fun i hi _ => ?_⟩
  · unfold mvG at hi
    split at hi
    · rename_i hle
      simp only [Option.map_eq_some_iff] at hi
      obtain ⟨o1, h1, rfl⟩ := hi
      obtain ⟨b, co, h2, h3, h4⟩ := ht.rep.obj _ _ h1
      exact ⟨b, co, by rw [hin i hle]; exact h2, h3, mvO_rel hmv (hg _ _ h1) h4⟩
    · cases hi
  · have key : ∀ i, mvG n g' i ≠ none → n ≤ i ∧ g' (i - n) ≠ none := fun i hi => by
      unfold mvG at hi
      split at hi
      · rename_i hle; exact ⟨hle, fun e => hi (by rw [e]; rfl)⟩
      · exact absurd rfl hi
    obtain ⟨a1, a2⟩ := key i hi
    obtain ⟨b1, b2⟩ := key j hj
    rw [hin i a1] at h1
    rw [hin j b1] at h2
    have := ht.rep.inj _ _ b a2 b2 h1 h2
    omega
  · rw [hin i (by omega)]; exact ht.rep.dom _ (by omega)
  · by_cases hle : n ≤ i
    · rw [hin i hle] at hi; exact ht.rep.old _ _ hi
    · rw [hout i (by omega)] at hi; exact Nat.lt_of_lt_of_le (hrep.old i b hi) hfr.size
  · rw [hin j hj] at hb; exact .inl (hnew _ _ hb)
  · unfold mvG; exact if_neg (by omega)
/-- **A closed call that makes blocks**, wherever it is made. -/
theorem FnS.moved {P : Program} {f : FuncId} {args : List Value} {r : XR} {call : XCall} (hc : CallOk P call) (h : call f args (fun _ => none) 0 = some r) (ha : args.all pureV = true) (hv : okMv r.v = true) (hg : (List.range r.n).all (fun i => match r.g i with | some o => okMvO o | none => true) = true) (n : Nat) :
    FnS P f args (fun _ => none) n (fun _ => False) fun v g' n' => v = mvV n r.v ∧ g' = mvG n r.g ∧ n' = n + r.n ∧ Kept (fun _ => none) n g' n' := by
  obtain ⟨h1, h2, h3, h4, h5, h6⟩ := hc f args (fun _ => none) 0 r (fun i hi => absurd rfl hi) h
  have hg' : ∀ i o, r.g i = some o → okMvO o = true := fun i o hi => by
    have hlt := h6 i (by rw [hi]; simp)
    have := List.all_eq_true.1 hg i (List.mem_range.2 hlt)
    rw [hi] at this; exact this
  refine ⟨_, _, _, FnC.moved h2 ha hv hg' n, rfl, rfl, rfl, ⟨by omega, fun i hi => if_neg (by omega), fun i hi => ?_⟩⟩
  unfold mvG at hi
  split at hi
  · have : r.g (i - n) ≠ none := fun e => hi (by rw [e]; rfl)
    have := h6 _ this
    omega
  · exact absurd rfl hi
theorem mvG_at (n b : Nat) (g : AMem) : mvG n g (n + b) = (g b).map (mvO n) := by
  unfold mvG; rw [if_pos (by omega), show n + b - n = b by omega]
end Go.Proofs.YtkcahnefekkfaaaAbs

namespace Go.Proofs.YtkcahnefekkfaaaAbs
open Go Go.RowKit
variable [Base]
section
variable {P : Program}
theorem aOp_buildL {t el s : Nat} {z : List Value} (hu : P.underlying t = some (.slice el)) (hz : zeroFlat P el = some z) (hs : tsize P el = some s) (hl : z.length = s) (ty : TypeId) (ev : Operand → Value) (g : AMem) (n len : Nat) (parts : Array (Nat × Operand)) (hb : len * s ≤ 16777216) :
    aOp P ty ev g n (.buildSlice t len parts) = (fillS s (zeroRow z len) (parts.toList.map fun p => (p.1, ev p.2))).map fun cs => (.slice (some ⟨n, 0, none⟩) len s, .new (.row cs true)) := by
  simp only [aOp, hu, hz, hs, hl, hb, and_self, if_true]; rfl
theorem aOp_buildS {t : TypeId} {z : List Value} {pl : List (Nat × Nat)} (hz : zeroFlat P t = some z) (hp : tplaces P t = some pl) (ty : TypeId) (ev : Operand → Value) (g : AMem) (n : Nat) (parts : Array (Nat × Operand)) :
    aOp P ty ev g n (.build t parts) = (fillP pl z (parts.toList.map fun p => (p.1, ev p.2))).map fun cs => (.agg cs.toArray, .none) := by
  have hu : ∃ fs, P.underlying t = some (.struct fs) := by
    unfold tplaces at hp
    split at hp
    · rename_i fs h; exact ⟨fs, h⟩
    · cases hp
  obtain ⟨fs, hu⟩ := hu
  simp only [aOp, hz, hu, hp]
  unfold fillP
  rw [show (fun i => pl[i]?) = nthP pl from funext (nthP_eq pl)]
theorem aOp_buildA {t : TypeId} {z : List Value} {m el s : Nat} (hz : zeroFlat P t = some z) (hu : P.underlying t = some (.array m el)) (hs : tsize P el = some s) (ty : TypeId) (ev : Operand → Value) (g : AMem) (n : Nat) (parts : Array (Nat × Operand)) :
    aOp P ty ev g n (.build t parts) = (fillS s z (parts.toList.map fun p => (p.1, ev p.2))).map fun cs => (.agg cs.toArray, .none) := by
  simp only [aOp, hz, hu, hs]; rfl
/-- Slicing. -/
def slR2 (b o n e : Nat) (lo hi : Option Nat) : Option Value := match lo, hi with
  | some l, some h => if l ≤ h ∧ h ≤ n then (if l < n ∨ l = 0 then some (.slice (some ⟨b, o + l * e, none⟩) (h - l) e) else some (.slice (some ⟨b, o, some 0⟩) 0 e)) else none
  | _, _ => none
def slR (e : Nat) (x : Value) (lo hi : Option Value) : Option Value := match x with
  | .slice (some ⟨b, o, none⟩) n e' => if e = e' then slR2 b o n e (aBound 0 lo) (aBound n hi) else none
  | .slice none 0 0 => if aBound 0 lo = some 0 ∧ aBound 0 hi = some 0 then some (.slice none 0 0) else none
  | _ => none
theorem slR_at (b o n e : Nat) (lo hi : Option Value) : slR e (.slice (some ⟨b, o, none⟩) n e) lo hi = slR2 b o n e (aBound 0 lo) (aBound n hi) := if_pos rfl
theorem slR2_some (b o n e l h : Nat) : slR2 b o n e (some l) (some h) = if l ≤ h ∧ h ≤ n then (if l < n ∨ l = 0 then some (.slice (some ⟨b, o + l * e, none⟩) (h - l) e) else some (.slice (some ⟨b, o, some 0⟩) 0 e)) else none := rfl
theorem aBound_none (d : Nat) : aBound d none = some d := rfl
theorem aBound_some (d : Nat) (k : IntKind) (i : Int) : aBound d (some (.int k i)) = if 0 ≤ i then some i.toNat else none := rfl
theorem aOp_sliceS {t el e : Nat} (hu : P.underlying t = some (.slice el)) (hs : tsize P el = some e) (ty : TypeId) (ev : Operand → Value) (g : AMem) (n : Nat) (x : Operand) (lo hi : Option Operand) :
    aOp P ty ev g n (.slice t x lo hi none) = (slR e (ev x) (lo.map ev) (hi.map ev)).map fun v => (v, .none) := by
  have key : ∀ y, aSlice P g t y (lo.map ev) (hi.map ev) none = slR e y (lo.map ev) (hi.map ev) := by
    intro y
    unfold aSlice slR
    rw [hu]
    cases y with
    | slice a k c =>
      cases a with
      | none => rcases k with _ | k <;> rcases c with _ | c <;> first | rfl | simp [hs]
      | some a =>
        obtain ⟨b, o, s⟩ := a
        cases s with
        | some s => rfl
        | none =>
          simp only [hs, Option.some.injEq]
          by_cases h : e = c
          · rw [if_pos h, if_pos h]
            cases aBound 0 (lo.map ev) <;> cases aBound k (hi.map ev) <;> first | rfl | (subst h; rfl)
          · rw [if_neg h, if_neg h]
    | _ => rfl
  simp only [aOp, hu, Option.map_none, key]
def rowHasR (o : Option AObj) (k : Nat) : Bool := match o with | some (.row cs _) => decide (k ≤ cs.length) | _ => false
theorem rowHasR_row (cs : List Value) (r : Bool) (k : Nat) : rowHasR (some (.row cs r)) k = decide (k ≤ cs.length) := rfl
def saR (g : AMem) (m e : Nat) (x : Value) : Option Value := match x with
  | .pointer (some ⟨b, o, none⟩) => if 0 < m ∧ rowHasR (g b) (o + m * e) = true then some (.slice (some ⟨b, o, none⟩) m e) else none
  | _ => none
theorem saR_at (g : AMem) (m e b o : Nat) : saR g m e (.pointer (some ⟨b, o, none⟩)) = if 0 < m ∧ rowHasR (g b) (o + m * e) = true then some (.slice (some ⟨b, o, none⟩) m e) else none := rfl
theorem aOp_sliceA {t m el e : Nat} (hu : P.underlying t = some (.array m el)) (hs : tsize P el = some e) (ty : TypeId) (ev : Operand → Value) (g : AMem) (n : Nat) (x : Operand) :
    aOp P ty ev g n (.slice t x none none none) = (saR g m e (ev x)).map fun v => (v, .none) := by
  have key : ∀ y, aSlice P g t y none none none = saR g m e y := by
    intro y
    unfold aSlice saR
    rw [hu]
    cases y with
    | pointer a =>
      cases a with
      | none => rfl
      | some a =>
        obtain ⟨b, o, s⟩ := a
        cases s with
        | some s => rfl
        | none =>
          simp only [hs, aBound_none]
          have : rowHas g b (o + m * e) = rowHasR (g b) (o + m * e) := rfl
          rw [this]
          by_cases h : 0 < m ∧ rowHasR (g b) (o + m * e) = true
          · rw [if_pos h, if_pos ⟨Nat.zero_le _, Nat.le_refl _, h⟩]; simp
          · rw [if_neg h, if_neg (fun x => h x.2.2)]
    | _ => rfl
  simp only [aOp, hu, Option.map_none, key]
/-- copy. -/
def cpR (g : AMem) (e : Nat) (d : Value) (r : Option (Nat × List Value)) : Option (Value × Eff) := match r with
  | some (m, xs) => match d with
    | .slice (some ⟨b, o, none⟩) dn e' =>
      if Nat.min m dn = 0 then some (.int .i64 0, .none) else
      if e' = e then match g b with
      | some (.row cs true) => if (xs.take (Nat.min m dn * e)).all cellOk = true ∧ o + Nat.min m dn * e ≤ cs.length then
          some (.int .i64 (Nat.min m dn : Nat), .put b (.row (splice cs o (xs.take (Nat.min m dn * e))) true)) else none
      | _ => none
      else none
    | .slice none 0 0 => some (.int .i64 0, .none)
    | _ => none
  | none => none
def cpR2 (o' : Option AObj) (b o k e : Nat) (xs : List Value) : Option (Value × Eff) := match o' with
  | some (.row cs true) => if (xs.take (k * e)).all cellOk = true ∧ o + k * e ≤ cs.length then some (.int .i64 (k : Nat), .put b (.row (splice cs o (xs.take (k * e))) true)) else none
  | _ => none
theorem cpR2_row (b o k e : Nat) (cs xs : List Value) : cpR2 (some (.row cs true)) b o k e xs = if (xs.take (k * e)).all cellOk = true ∧ o + k * e ≤ cs.length then some (.int .i64 (k : Nat), .put b (.row (splice cs o (xs.take (k * e))) true)) else none := rfl
theorem cpR_at (g : AMem) (e b o dn m : Nat) (xs : List Value) : cpR g e (.slice (some ⟨b, o, none⟩) dn e) (some (m, xs)) = if Nat.min m dn = 0 then some (.int .i64 0, .none) else cpR2 (g b) b o (Nat.min m dn) e xs := by
  simp only [cpR, if_true]
  split
  · rfl
  · cases g b with
    | none => rfl
    | some x => cases x with
      | row cs r => cases r <;> rfl
      | _ => rfl
theorem aCopy_eq {t el e : Nat} (hu : P.underlying t = some (.slice el)) (hs : tsize P el = some e) (g : AMem) (d s : Value) : aCopy P g t d s = cpR g e d (aRead g e s) := by
  unfold aCopy cpR
  rw [hu]
  simp only [hs]
  cases aRead g e s <;> rfl
section
variable {P : Program} {t : TypeId} {xo yo : Operand}
theorem wrap_u64_lt {x : Nat} (h : x < 18446744073709551616) : IntKind.u64.wrap (x : Int) = (x : Int) := by rw [wrap_u64_nat, Nat.mod_eq_of_lt h]
theorem ub_quo {x y : BitVec 64} (h : y ≠ 0#64) : aBin P .quo t xo yo (U x) (U y) = some (U (x / y)) := by
  have hy : (y.toNat : Int) ≠ 0 := fun e => h (BitVec.eq_of_toNat_eq (by simpa using e))
  unfold U
  rw [bin_quo hy]
  have e : ((x.toNat : Int).tdiv (y.toNat : Int)) = ((x / y).toNat : Int) := by
    rw [BitVec.toNat_udiv, Int.tdiv_eq_ediv_of_nonneg (Int.natCast_nonneg _)]; rfl
  rw [e, wrap_u64_lt (x / y).isLt]
theorem ub_rem {x y : BitVec 64} (h : y ≠ 0#64) : aBin P .rem t xo yo (U x) (U y) = some (U (x % y)) := by
  have hy : (y.toNat : Int) ≠ 0 := fun e => h (BitVec.eq_of_toNat_eq (by simpa using e))
  unfold U
  rw [bin_rem hy]
  have e : ((x.toNat : Int).tmod (y.toNat : Int)) = ((x % y).toNat : Int) := by
    rw [BitVec.toNat_umod, Int.tmod_eq_emod_of_nonneg (Int.natCast_nonneg _)]; rfl
  rw [e]
end
theorem eqF_nat {a b : Nat} (h : a ≠ b) : (a = b) = False := by simp [h]
/-! ### Instances -/
theorem inst_append {t el e by_ : Nat} {z : Value} (hu : P.underlying t = some (.slice el)) (hs : tsize P el = some (e + 1)) (hb : tbytes P el = some by_) (hz : tzero P el = some z) (hzs : z.cells.size = e + 1) (g : AMem) (n : Nat) (s x : Value) : aAppend P g n t s x = appR g n e by_ s (aRead g (e + 1) x) := aAppend_eq hu hs hb hz hzs s x
theorem inst_make {t el e by_ : Nat} {z : Value} (hu : P.underlying t = some (.slice el)) (hs : tsize P el = some e) (hb : tbytes P el = some by_) (hz : tzero P el = some z) (hzf : z.cells.toList.all flatV = true) (hzs : z.cells.size = e) (n : Nat) (k k' : IntKind) (l c : Int) :
    aMake P n t (.int k l) (.int k' c) = if 0 ≤ l ∧ l ≤ c ∧ c ≤ 70368744177664 ∧ by_ * c.toNat ≤ 70368744177664 then some (.slice (some ⟨n, 0, none⟩) l.toNat e, .new (.row (zeroRow z.cells.toList l.toNat) true)) else none := aMake_eq hu hs hb hz hzf hzs l c
end
end Go.Proofs.YtkcahnefekkfaaaAbs

namespace Go.Proofs.YtkcahnefekkfaaaAbs
open Go Go.RowKit
variable [Base]
theorem rulesDp :
  (∀ {P : Program} {may : Nat → Prop} {Q : RPost} {l : RL} {g : AMem} {n : Nat} (ops : List DOp), rwp P may (RCode.regionD ops) Q l g n = drun P may ops (Q Exit.normal) [] l g n) ∧
  (∀ {P : Program} {may : Nat → Prop} {l : RL} {g : AMem} {n : Nat} {Q : RL → AMem → Nat → Prop} {log : DLog}, drun P may [] Q log l g n = Q l g n) ∧
  (∀ {P : Program} {may : Nat → Prop} {l : RL} {g : AMem} {n : Nat} {Q : RL → AMem → Nat → Prop} {log : DLog} (o : DOp) (rest : List DOp), drun P may (o :: rest) Q log l g n = dstep P may o (drun P may rest Q) log l g n) ∧
  (∀ {P : Program} {may : Nat → Prop} {l : RL} {g : AMem} {n : Nat} {K : DLog → RL → AMem → Nat → Prop} {log : DLog} {dst : Option Tmp} {i : Nat} {un : List Nat} {ty : TypeId} (op : Op), dstep P may { dst := dst, guard := RG.none, ty := ty, op := op, i := i, un := un } K log l g n = ddo P may dst i un ty op K log l g n) ∧
  (∀ {P : Program} {may : Nat → Prop} {l : RL} {g : AMem} {n : Nat} {K : DLog → RL → AMem → Nat → Prop} {log : DLog} {dst : Option Tmp} {i : Nat} {un : List Nat} {ty : TypeId} (t : Tmp) (want : Bool) (op : Op), dstep P may { dst := dst, guard := RG.some t want, ty := ty, op := op, i := i, un := un } K log l g n = rgd (look t l) want (ddo P may dst i un ty op K log l g n) (K log (push dst undef l) g n)) ∧
  (∀ {P : Program} {may : Nat → Prop} {l : RL} {g : AMem} {n : Nat} {K : DLog → RL → AMem → Nat → Prop} {log : DLog} {dst : Option Tmp} {i : Nat} {un : List Nat} {ty : TypeId} (x : Operand), ddo P may dst i un ty (Op.move x) K log l g n = rdo P may dst true ty (Op.move x) (K log) l g n) ∧
  (∀ {P : Program} {may : Nat → Prop} {l : RL} {g : AMem} {n : Nat} {K : DLog → RL → AMem → Nat → Prop} {log : DLog} {dst : Option Tmp} {i : Nat} {un : List Nat} {ty : TypeId} (x : Operand), ddo P may dst i un ty (Op.assign x) K log l g n = rdo P may dst true ty (Op.assign x) (K log) l g n) ∧
  (∀ {P : Program} {may : Nat → Prop} {l : RL} {g : AMem} {n : Nat} {K : DLog → RL → AMem → Nat → Prop} {log : DLog} {dst : Option Tmp} {i : Nat} {un : List Nat} {ty : TypeId} (c a b : Operand), ddo P may dst i un ty (Op.pick c a b) K log l g n = rdo P may dst true ty (Op.pick c a b) (K log) l g n) ∧
  (∀ {P : Program} {may : Nat → Prop} {l : RL} {g : AMem} {n : Nat} {K : DLog → RL → AMem → Nat → Prop} {log : DLog} {dst : Option Tmp} {i : Nat} {un : List Nat} {ty : TypeId} (t : TypeId) (ps : Array (Nat × Operand)), ddo P may dst i un ty (Op.build t ps) K log l g n = rdo P may dst true ty (Op.build t ps) (K log) l g n) ∧
  (∀ {P : Program} {may : Nat → Prop} {l : RL} {g : AMem} {n : Nat} {K : DLog → RL → AMem → Nat → Prop} {log : DLog} {dst : Option Tmp} {i : Nat} {un : List Nat} {ty : TypeId} (x : Operand), ddo P may dst i un ty (Op.nilCheck x) K log l g n = rdo P may dst true ty (Op.nilCheck x) (K log) l g n) ∧
  (∀ {P : Program} {may : Nat → Prop} {l : RL} {g : AMem} {n : Nat} {K : DLog → RL → AMem → Nat → Prop} {log : DLog} {dst : Option Tmp} {i : Nat} {un : List Nat} {ty : TypeId} (op : BinOp) (t t' : TypeId) (x y : Operand), ddo P may dst i un ty (Op.binOp op t x y t') K log l g n = rdo P may dst true ty (Op.binOp op t x y t') (K log) l g n) ∧
  (∀ {P : Program} {may : Nat → Prop} {l : RL} {g : AMem} {n : Nat} {K : DLog → RL → AMem → Nat → Prop} {log : DLog} {dst : Option Tmp} {i : Nat} {un : List Nat} {ty : TypeId} (op : UnOp) (t : TypeId) (x : Operand), ddo P may dst i un ty (Op.unOp op t x) K log l g n = rdo P may dst true ty (Op.unOp op t x) (K log) l g n) ∧
  (∀ {P : Program} {may : Nat → Prop} {l : RL} {g : AMem} {n : Nat} {K : DLog → RL → AMem → Nat → Prop} {log : DLog} {dst : Option Tmp} {i : Nat} {un : List Nat} {ty : TypeId} (s d : TypeId) (x : Operand), ddo P may dst i un ty (Op.convert s d x) K log l g n = rdo P may dst true ty (Op.convert s d x) (K log) l g n) ∧
  (∀ {P : Program} {may : Nat → Prop} {l : RL} {g : AMem} {n : Nat} {K : DLog → RL → AMem → Nat → Prop} {log : DLog} {dst : Option Tmp} {i : Nat} {un : List Nat} {ty : TypeId} (fn : Fn) (xs ys : Array Operand), ddo P may dst i un ty (Op.makeFunc fn xs ys) K log l g n = rdo P may dst true ty (Op.makeFunc fn xs ys) (K log) l g n) ∧
  (∀ {P : Program} {may : Nat → Prop} {l : RL} {g : AMem} {n : Nat} {K : DLog → RL → AMem → Nat → Prop} {log : DLog} {dst : Option Tmp} {i : Nat} {un : List Nat} {ty : TypeId} (t : TypeId) (x : Operand) (j : Nat), ddo P may dst i un ty (Op.fieldAddr t x j) K log l g n = rdo P may dst true ty (Op.fieldAddr t x j) (K log) l g n) ∧
  (∀ {P : Program} {may : Nat → Prop} {l : RL} {g : AMem} {n : Nat} {K : DLog → RL → AMem → Nat → Prop} {log : DLog} {dst : Option Tmp} {i : Nat} {un : List Nat} {ty : TypeId} (t : TypeId) (x : Operand) (j : Nat), ddo P may dst i un ty (Op.field t x j) K log l g n = rdo P may dst true ty (Op.field t x j) (K log) l g n) ∧
  (∀ {P : Program} {may : Nat → Prop} {l : RL} {g : AMem} {n : Nat} {K : DLog → RL → AMem → Nat → Prop} {log : DLog} {dst : Option Tmp} {i : Nat} {un : List Nat} {ty : TypeId} (t : TypeId) (x j : Operand), ddo P may dst i un ty (Op.indexAddr t x j) K log l g n = rdo P may dst true ty (Op.indexAddr t x j) (K log) l g n) ∧
  (∀ {P : Program} {may : Nat → Prop} {l : RL} {g : AMem} {n : Nat} {K : DLog → RL → AMem → Nat → Prop} {log : DLog} {dst : Option Tmp} {i : Nat} {un : List Nat} {ty : TypeId} (t : TypeId) (x j : Operand), ddo P may dst i un ty (Op.index t x j) K log l g n = rdo P may dst true ty (Op.index t x j) (K log) l g n) ∧
  (∀ {P : Program} {may : Nat → Prop} {l : RL} {g : AMem} {n : Nat} {K : DLog → RL → AMem → Nat → Prop} {log : DLog} {dst : Option Tmp} {i : Nat} {un : List Nat} {ty : TypeId} (x : Operand) (j : Nat), ddo P may dst i un ty (Op.extract x j) K log l g n = rdo P may dst true ty (Op.extract x j) (K log) l g n) ∧
  (∀ {P : Program} {may : Nat → Prop} {l : RL} {g : AMem} {n : Nat} {K : DLog → RL → AMem → Nat → Prop} {log : DLog} {dst : Option Tmp} {i : Nat} {un : List Nat} {ty : TypeId} (xs : Array Operand) (ts : Array TypeId), ddo P may dst i un ty (Op.call { callee := Callee.builtin Builtin.len, args := xs, argTypes := ts }) K log l g n = rdo P may dst true ty (Op.call { callee := Callee.builtin Builtin.len, args := xs, argTypes := ts }) (K log) l g n) ∧
  (∀ {P : Program} {may : Nat → Prop} {l : RL} {g : AMem} {n : Nat} {K : DLog → RL → AMem → Nat → Prop} {log : DLog} {dst : Option Tmp} {i : Nat} {un : List Nat} {ty : TypeId} (xs : Array Operand) (ts : Array TypeId), ddo P may dst i un ty (Op.call { callee := Callee.builtin Builtin.max, args := xs, argTypes := ts }) K log l g n = rdo P may dst true ty (Op.call { callee := Callee.builtin Builtin.max, args := xs, argTypes := ts }) (K log) l g n) ∧
  (∀ {P : Program} {may : Nat → Prop} {l : RL} {g : AMem} {n : Nat} {K : DLog → RL → AMem → Nat → Prop} {log : DLog} {dst : Option Tmp} {i : Nat} {un : List Nat} {ty : TypeId} (xs : Array Operand) (ts : Array TypeId), ddo P may dst i un ty (Op.call { callee := Callee.builtin Builtin.min, args := xs, argTypes := ts }) K log l g n = rdo P may dst true ty (Op.call { callee := Callee.builtin Builtin.min, args := xs, argTypes := ts }) (K log) l g n) ∧
  (∀ {P : Program} {may : Nat → Prop} {l : RL} {g : AMem} {n : Nat} {K : DLog → RL → AMem → Nat → Prop} {log : DLog} {dst : Option Tmp} {i : Nat} {un : List Nat} {ty : TypeId} (xs : Array Operand) (ts : Array TypeId), ddo P may dst i un ty (Op.call { callee := Callee.builtin Builtin.real, args := xs, argTypes := ts }) K log l g n = rdo P may dst true ty (Op.call { callee := Callee.builtin Builtin.real, args := xs, argTypes := ts }) (K log) l g n) ∧
  (∀ {P : Program} {may : Nat → Prop} {l : RL} {g : AMem} {n : Nat} {K : DLog → RL → AMem → Nat → Prop} {log : DLog} {dst : Option Tmp} {i : Nat} {un : List Nat} {ty : TypeId} (xs : Array Operand) (ts : Array TypeId), ddo P may dst i un ty (Op.call { callee := Callee.builtin Builtin.imag, args := xs, argTypes := ts }) K log l g n = rdo P may dst true ty (Op.call { callee := Callee.builtin Builtin.imag, args := xs, argTypes := ts }) (K log) l g n) ∧
  (∀ {P : Program} {may : Nat → Prop} {l : RL} {g : AMem} {n : Nat} {K : DLog → RL → AMem → Nat → Prop} {log : DLog} {dst : Option Tmp} {i : Nat} {un : List Nat} {ty : TypeId} (xs : Array Operand) (ts : Array TypeId), ddo P may dst i un ty (Op.call { callee := Callee.builtin Builtin.complex, args := xs, argTypes := ts }) K log l g n = rdo P may dst true ty (Op.call { callee := Callee.builtin Builtin.complex, args := xs, argTypes := ts }) (K log) l g n) ∧
  (∀ {P : Program} {may : Nat → Prop} {l : RL} {g : AMem} {n : Nat} {K : DLog → RL → AMem → Nat → Prop} {log : DLog} {dst : Option Tmp} {i : Nat} {un : List Nat} {ty : TypeId} (t : TypeId) (a : Operand), ddo P may dst i un ty (Op.load t a) K log l g n = (dsep log (Fp.bs (fpV (aEval (regs l) a))) (Fp.bs []) un ∧ rval dst (K ((i, { F := Fp.bs (fpV (aEval (regs l) a)), W := Fp.bs [], lo := n, hi := n }) :: log)) l g n (aLoad P g t (aEval (regs l) a)))) ∧
  (∀ {P : Program} {may : Nat → Prop} {l : RL} {g : AMem} {n : Nat} {K : DLog → RL → AMem → Nat → Prop} {log : DLog} {dst : Option Tmp} {i : Nat} {un : List Nat} {ty : TypeId} (t : TypeId), ddo P may dst i un ty (Op.alloc t) K log l g n = deff may dst i un [] K log l g n (Option.map (fun (z : List Value) ↦ (Value.pointer (some { block := n, off := 0 }), Eff.new (AObj.row z true))) (zeroFlat P t))) ∧
  (∀ {P : Program} {may : Nat → Prop} {l : RL} {g : AMem} {n : Nat} {K : DLog → RL → AMem → Nat → Prop} {log : DLog} {dst : Option Tmp} {i : Nat} {un : List Nat} {ty : TypeId} (t : TypeId) (x : Operand), ddo P may dst i un ty (Op.box t x) K log l g n = (isJunk (aEval (regs l) x) = false ∧ dsep log (Fp.bs (fpV (aEval (regs l) x))) (Fp.bs []) un ∧ K ((i, { F := Fp.bs (fpV (aEval (regs l) x)), W := Fp.bs [], lo := n, hi := n + 1 }) :: log) (push dst (Value.pointer (some { block := n, off := 0 })) l) (gset g n (some (AObj.row (Array.toList (Value.cells (aEval (regs l) x))) true))) (n + 1))) ∧
  (∀ {P : Program} {may : Nat → Prop} {l : RL} {g : AMem} {n : Nat} {K : DLog → RL → AMem → Nat → Prop} {log : DLog} {dst : Option Tmp} {i : Nat} {un : List Nat} {ty : TypeId} (t : TypeId) (a v : Operand), ddo P may dst i un ty (Op.store t a v) K log l g n = deff may dst i un (fpV (aEval (regs l) a) ++ fpV (aEval (regs l) v)) K log l g n (Option.map (fun (ε : Eff) ↦ (undef, ε)) (aStore P g t (aEval (regs l) v) (aEval (regs l) a)))) ∧
  (∀ {P : Program} {may : Nat → Prop} {l : RL} {g : AMem} {n : Nat} {K : DLog → RL → AMem → Nat → Prop} {log : DLog} {dst : Option Tmp} {i : Nat} {un : List Nat} {ty : TypeId} (t : TypeId) (len : Nat) (parts : Array (Nat × Operand)), ddo P may dst i un ty (Op.buildSlice t len parts) K log l g n = deff may dst i un (List.flatMap (fun (p : Nat × Operand) ↦ fpV (aEval (regs l) (Prod.snd p))) (Array.toList parts)) K log l g n (aOp P ty (aEval (regs l)) g n (Op.buildSlice t len parts))) ∧
  (∀ {P : Program} {may : Nat → Prop} {l : RL} {g : AMem} {n : Nat} {K : DLog → RL → AMem → Nat → Prop} {log : DLog} {dst : Option Tmp} {i : Nat} {un : List Nat} {ty : TypeId} (t : TypeId) (x c : Operand), ddo P may dst i un ty (Op.makeSlice t x c) K log l g n = deff may dst i un (fpV (aEval (regs l) x) ++ fpV (aEval (regs l) c)) K log l g n (aMake P n t (aEval (regs l) x) (aEval (regs l) c))) ∧
  (∀ {P : Program} {may : Nat → Prop} {l : RL} {g : AMem} {n : Nat} {K : DLog → RL → AMem → Nat → Prop} {log : DLog} {dst : Option Tmp} {i : Nat} {un : List Nat} {ty : TypeId} (t : TypeId) (x : Operand) (lo hi mx : Option Operand), ddo P may dst i un ty (Op.slice t x lo hi mx) K log l g n = deff may dst i un (fpV (aEval (regs l) x) ++ (fpO' l lo ++ (fpO' l hi ++ fpO' l mx))) K log l g n (aOp P ty (aEval (regs l)) g n (Op.slice t x lo hi mx))) ∧
  (∀ {P : Program} {may : Nat → Prop} {l : RL} {g : AMem} {n : Nat} {K : DLog → RL → AMem → Nat → Prop} {log : DLog} {dst : Option Tmp} {i : Nat} {un : List Nat} {ty : TypeId} (s x : Operand) (t : TypeId), ddo P may dst i un ty (Op.call { callee := Callee.builtin Builtin.append, args := #[s, x], argTypes := #[t, t] }) K log l g n = deff may dst i un (fpV (aEval (regs l) s) ++ fpV (aEval (regs l) x)) K log l g n (aAppend P g n t (aEval (regs l) s) (aEval (regs l) x))) ∧
  (∀ {P : Program} {may : Nat → Prop} {l : RL} {g : AMem} {n : Nat} {K : DLog → RL → AMem → Nat → Prop} {log : DLog} {dst : Option Tmp} {i : Nat} {un : List Nat} {ty : TypeId} (d s : Operand) (t t' : TypeId), ddo P may dst i un ty (Op.call { callee := Callee.builtin Builtin.copy, args := #[d, s], argTypes := #[t, t'] }) K log l g n = deff may dst i un (fpV (aEval (regs l) d) ++ fpV (aEval (regs l) s)) K log l g n (aCopy P g t (aEval (regs l) d) (aEval (regs l) s))) ∧
  (∀ {P : Program} {may : Nat → Prop} {l : RL} {g : AMem} {n : Nat} {K : DLog → RL → AMem → Nat → Prop} {log : DLog} {dst : Option Tmp} {i : Nat} {un : List Nat} {ty : TypeId} (f : FuncId) (args : Array Operand) (ts : Array TypeId), ddo P may dst i un ty (Op.call { callee := Callee.value (Operand.func f), args := args, argTypes := ts }) K log l g n = dcall P may f (List.map (aEval (regs l)) (Array.toList args)) dst i un K log l g n) ∧
  (∀ {P : Program} {may : Nat → Prop} {l : RL} {g : AMem} {n : Nat} {K : DLog → RL → AMem → Nat → Prop} {log : DLog} {dst : Option Tmp} {i : Nat} {un : List Nat} {ty : TypeId} (t : Tmp) (args : Array Operand) (ts : Array TypeId), ddo P may dst i un ty (Op.call { callee := Callee.value (Operand.tmp t), args := args, argTypes := ts }) K log l g n = dcallv P may (look t l) (List.map (aEval (regs l)) (Array.toList args)) dst i un K log l g n) ∧
  (∀ {P : Program} {may : Nat → Prop} {l : RL} {g : AMem} {n : Nat} {dst : Option Tmp} {ty : TypeId} (t : Tmp) (args : Array Operand) (ts : Array TypeId) {fl : Bool} {K : RL → AMem → Nat → Prop}, rdo P may dst fl ty (Op.call { callee := Callee.value (Operand.tmp t), args := args, argTypes := ts }) K l g n = rcallv P may (look t l) (List.map (aEval (regs l)) (Array.toList args)) dst fl K l g n) :=
  ⟨@rwp_regionD _, @drun_nil _, @drun_cons _, @dstep_none _, @dstep_some _, @ddo_move _, @ddo_assign _, @ddo_pick _, @ddo_build _, @ddo_nilCheck _, @ddo_binOp _, @ddo_unOp _, @ddo_convert _, @ddo_makeFunc _, @ddo_fieldAddr _, @ddo_field _, @ddo_indexAddr _, @ddo_index _, @ddo_extract _, @ddo_len _, @ddo_max _, @ddo_min _, @ddo_real _, @ddo_imag _, @ddo_complex _, @ddo_load _, @ddo_alloc _, @ddo_box _, @ddo_store _, @ddo_buildSlice _, @ddo_makeSlice _, @ddo_slice _, @ddo_append _, @ddo_copy _, @ddo_call _, @ddo_callv _, @rdo_callv _⟩
theorem rulesDq :
  (∀ (w : BitVec 64) (T : Regs), aEval T (Operand.const (U w)) = U w) ∧
  (∀ (xs : List Value), splice xs 0 [] = xs) ∧
  (∀ (x y : Value) (xs ys : List Value), splice (x :: xs) 0 (y :: ys) = y :: splice xs 0 ys) ∧
  (∀ (x : Value) (xs ys : List Value) (k : Nat), k ≠ 0 → splice (x :: xs) k ys = x :: splice xs (k - 1) ys) ∧
  (∀ (g : AMem) (i : Nat) (o o' : Option AObj), gset (gset g i o) i o' = gset g i o') ∧
  (∀ (w : BitVec 64), isJunk (U w) = false) ∧
  (∀ (w : BitVec 64), Value.cells (U w) = #[U w]) ∧
  (∀ (w : BitVec 64), cellOk (U w) = true) ∧
  (∀ {P : Program} {t : TypeId} {xo yo : Operand} (x y : BitVec 64), aBin P BinOp.and t xo yo (U x) (U y) = some (U (x &&& y))) ∧
  (∀ {P : Program} {t : TypeId} {xo yo : Operand} (x y : BitVec 64), aBin P BinOp.or t xo yo (U x) (U y) = some (U (x ||| y))) ∧
  (∀ {P : Program} {t : TypeId} {xo yo : Operand} (x y : BitVec 64), aBin P BinOp.xor t xo yo (U x) (U y) = some (U (x ^^^ y))) ∧
  (∀ {P : Program} {t : TypeId} {xo yo : Operand} (x y : BitVec 64), aBin P BinOp.andNot t xo yo (U x) (U y) = some (U (x &&& ~~~y))) ∧
  (∀ {P : Program} {t : TypeId} {xo yo : Operand} (x y : BitVec 64), aBin P BinOp.add t xo yo (U x) (U y) = some (U (x + y))) ∧
  (∀ {P : Program} {t : TypeId} {xo yo : Operand} (x y : BitVec 64), aBin P BinOp.sub t xo yo (U x) (U y) = some (U (x - y))) ∧
  (∀ {P : Program} {t : TypeId} {xo yo : Operand} (x y : BitVec 64), aBin P BinOp.mul t xo yo (U x) (U y) = some (U (x * y))) ∧
  (∀ {P : Program} {t : TypeId} {xo yo : Operand} (x : BitVec 64) {b : Int} {k : IntKind}, 0 ≤ b → aBin P BinOp.shl t xo yo (U x) (Value.int k b) = some (U (x <<< Int.toNat b))) ∧
  (∀ {P : Program} {t : TypeId} {xo yo : Operand} (x : BitVec 64) {b : Int} {k : IntKind}, 0 ≤ b → aBin P BinOp.shr t xo yo (U x) (Value.int k b) = some (U (x >>> Int.toNat b))) ∧
  (∀ {P : Program} {t : TypeId} {xo yo : Operand} (x b : BitVec 64), aBin P BinOp.shl t xo yo (U x) (U b) = some (U (x <<< b))) ∧
  (∀ {P : Program} {t : TypeId} {xo yo : Operand} (x b : BitVec 64), aBin P BinOp.shr t xo yo (U x) (U b) = some (U (x >>> b))) ∧
  (∀ {P : Program} {t : TypeId} {xo yo : Operand} (x y : BitVec 64), aBin P BinOp.eql t xo yo (U x) (U y) = some (Value.bool (decide (x = y)))) ∧
  (∀ {P : Program} {t : TypeId} {xo yo : Operand} (x y : BitVec 64), aBin P BinOp.neq t xo yo (U x) (U y) = some (Value.bool (decide (x ≠ y)))) ∧
  (∀ {P : Program} {t : TypeId} {xo yo : Operand} (x y : BitVec 64), aBin P BinOp.lss t xo yo (U x) (U y) = some (Value.bool (decide (x < y)))) ∧
  (∀ {P : Program} {t : TypeId} {xo yo : Operand} (x y : BitVec 64), aBin P BinOp.leq t xo yo (U x) (U y) = some (Value.bool (decide (x ≤ y)))) ∧
  (∀ {P : Program} {t : TypeId} {xo yo : Operand} (x y : BitVec 64), aBin P BinOp.gtr t xo yo (U x) (U y) = some (Value.bool (decide (y < x)))) ∧
  (∀ {P : Program} {t : TypeId} {xo yo : Operand} (x y : BitVec 64), aBin P BinOp.geq t xo yo (U x) (U y) = some (Value.bool (decide (y ≤ x)))) ∧
  (∀ (s : Nat) (cells : List Value), fillS s cells [] = some cells) ∧
  (∀ (s : Nat) (cells : List Value) (i : Nat) (v : Value) (rest : List (Nat × Value)), fillS s cells ((i, v) :: rest) = if List.length (Array.toList (Value.cells v)) = s ∧ i * s + s ≤ List.length cells ∧ isJunk v = false then fillS s (splice cells (i * s) (Array.toList (Value.cells v))) rest else none) ∧
  (∀ (pl : List (Nat × Nat)) (cells : List Value), fillP pl cells [] = some cells) ∧
  (∀ (pl : List (Nat × Nat)) (cells : List Value) (i : Nat) (v : Value) (rest : List (Nat × Value)), fillP pl cells ((i, v) :: rest) = fillO (nthP pl i) pl cells v rest) ∧
  (∀ (off size : Nat) (pl : List (Nat × Nat)) (cells : List Value) (v : Value) (rest : List (Nat × Value)), fillO (some (off, size)) pl cells v rest = if List.length (Array.toList (Value.cells v)) = size ∧ off + size ≤ List.length cells ∧ isJunk v = false then fillP pl (splice cells off (Array.toList (Value.cells v))) rest else none) ∧
  (∀ (x : Nat × Nat) (xs : List (Nat × Nat)) (i : Nat), nthP (x :: xs) i = if i = 0 then some x else nthP xs (i - 1)) ∧
  (∀ (v : Value) (n : Nat), zeroRow [v] n = List.replicate n v) ∧
  (∀ (g : AMem) (b o m e : Nat), aRead g e (Value.slice (some { block := b, off := o }) m e) = if m = 0 then some (0, []) else readR (g b) o m e) ∧
  (∀ (g : AMem) (e : Nat), aRead g e (Value.slice none 0 0) = some (0, [])) ∧
  (∀ (cs : List Value) (rw_ : Bool) (off m e : Nat), readR (some (AObj.row cs rw_)) off m e = if off + m * e ≤ List.length cs then some (m, List.take (m * e) (List.drop off cs)) else none) ∧
  (∀ (g : AMem) (n e by_ m : Nat) (xs : List Value), appR g n e by_ (Value.slice none 0 0) (some (m, xs)) = if m = 0 then some (Value.slice none 0 0, Eff.none) else if List.all xs cellOk = true then if m * by_ ≤ 70368744177664 ∧ m ≤ 70368744177664 then some (Value.slice (some { block := n, off := 0 }) m (e + 1), Eff.new (AObj.row xs true)) else none else none) ∧
  (∀ (g : AMem) (n e by_ m b k : Nat) (xs : List Value), appR g n e by_ (Value.slice (some { block := b, off := 0 }) k (e + 1)) (some (m, xs)) = if m = 0 then some (Value.slice (some { block := b, off := 0 }) k (e + 1), Eff.none) else if List.all xs cellOk = true then if (k + m) * by_ ≤ 70368744177664 ∧ k + m ≤ 70368744177664 then grow (g b) b n k m (e + 1) xs else none else none) ∧
  (∀ (g : AMem) (n by_ m b k : Nat) (xs : List Value), appR g n 0 by_ (Value.slice (some { block := b, off := 0 }) k 1) (some (m, xs)) = if m = 0 then some (Value.slice (some { block := b, off := 0 }) k 1, Eff.none) else if List.all xs cellOk = true then if (k + m) * by_ ≤ 70368744177664 ∧ k + m ≤ 70368744177664 then grow (g b) b n k m 1 xs else none else none) ∧
  (∀ (g : AMem) (n e by_ : Nat) (a : Option Addr) (k c : Nat) (xs : List Value), appR g n e by_ (Value.slice a k c) (some (0, xs)) = some (Value.slice a k c, Eff.none)) ∧
  (∀ (b n k m e : Nat) (cs xs : List Value), grow (some (AObj.row cs true)) b n k m e xs = if List.length cs = k * e then some (Value.slice (some { block := n, off := 0 }) (k + m) e, Eff.move b (AObj.row (cs ++ xs) true)) else none) ∧
  (∀ {P : Program} {may : Nat → Prop} {l : RL} {g : AMem} {n : Nat} {dst : Option Tmp} (k : FuncId) (xs ys : Array Value) (args : List Value) {fl : Bool} {K : RL → AMem → Nat → Prop}, rcallv P may (Value.func (Fn.func k) xs ys) args dst fl K l g n = rcall P may k (Array.toList xs ++ args ++ Array.toList ys) dst fl K l g n) ∧
  (∀ {P : Program} {may : Nat → Prop} {l : RL} {g : AMem} {n : Nat} {K : DLog → RL → AMem → Nat → Prop} {log : DLog} {dst : Option Tmp} {i : Nat} {un : List Nat} (k : FuncId) (xs ys : Array Value) (args : List Value), dcallv P may (Value.func (Fn.func k) xs ys) args dst i un K log l g n = dcall P may k (Array.toList xs ++ args ++ Array.toList ys) dst i un K log l g n) ∧
  (∀ {may : Nat → Prop} {l : RL} {g : AMem} {n : Nat} {K : DLog → RL → AMem → Nat → Prop} {log : DLog} {dst : Option Tmp} {i : Nat} {un fp : List Nat} (v : Value), deff may dst i un fp K log l g n (some (v, Eff.none)) = (dsep log (Fp.bs fp) (Fp.bs []) un ∧ K ((i, { F := Fp.bs fp, W := Fp.bs [], lo := n, hi := n }) :: log) (push dst v l) g n)) ∧
  (∀ {may : Nat → Prop} {l : RL} {g : AMem} {n : Nat} {K : DLog → RL → AMem → Nat → Prop} {log : DLog} {dst : Option Tmp} {i : Nat} {un fp : List Nat} (v : Value) (o : AObj), deff may dst i un fp K log l g n (some (v, Eff.new o)) = (dsep log (Fp.bs fp) (Fp.bs []) un ∧ K ((i, { F := Fp.bs fp, W := Fp.bs [], lo := n, hi := n + 1 }) :: log) (push dst v l) (gset g n (some o)) (n + 1))) ∧
  (∀ {may : Nat → Prop} {l : RL} {g : AMem} {n : Nat} {K : DLog → RL → AMem → Nat → Prop} {log : DLog} {dst : Option Tmp} {i : Nat} {un fp : List Nat} (v : Value) (b : Nat) (o : AObj), deff may dst i un fp K log l g n (some (v, Eff.put b o)) = (may b ∧ dsep log (Fp.bs fp) (Fp.bs [b]) un ∧ K ((i, { F := Fp.bs fp, W := Fp.bs [b], lo := n, hi := n }) :: log) (push dst v l) (gset g b (some o)) n)) ∧
  (∀ {may : Nat → Prop} {l : RL} {g : AMem} {n : Nat} {K : DLog → RL → AMem → Nat → Prop} {log : DLog} {dst : Option Tmp} {i : Nat} {un fp : List Nat} (v : Value) (b : Nat) (o : AObj), deff may dst i un fp K log l g n (some (v, Eff.move b o)) = (may b ∧ dsep log (Fp.bs fp) (Fp.bs [b]) un ∧ K ((i, { F := Fp.bs fp, W := Fp.bs [b], lo := n, hi := n + 1 }) :: log) (push dst v l) (gset (gset g b none) n (some o)) (n + 1))) ∧
  (∀ (log : DLog) (un : List Nat), dsep log (Fp.bs []) (Fp.bs []) un = True) ∧
  (∀ (log : DLog) (F W : Fp), dsep log F W [] = True) ∧
  (∀ (log : DLog) (F W : Fp) (i : Nat) (un : List Nat), dsep log F W (i :: un) = (dsep1 F W (dget i log) ∧ dsep log F W un)) ∧
  (∀ (F W : Fp), dsep1 F W none = True) ∧
  (∀ (F W F' W' : Fp) (lo hi : Nat), dsep1 F W (some { F := F', W := W', lo := lo, hi := hi }) = (Fp.sep F W' ∧ Fp.sep F (Fp.rng lo hi) ∧ Fp.sep F' W)) ∧
  (∀ (i : Nat), dget i [] = none) ∧
  (∀ (i k : Nat) (e : DEnt) (r : DLog), dget i ((k, e) :: r) = if i = k then some e else dget i r) ∧
  (∀ (b : Nat), Fp.out (Fp.bs []) b = True) ∧
  (∀ {b c : Nat} {l : List Nat}, b ≠ c → Fp.out (Fp.bs (c :: l)) b = Fp.out (Fp.bs l) b) ∧
  (∀ {b lo hi : Nat}, b < lo ∨ hi ≤ b → Fp.out (Fp.rng lo hi) b = True) ∧
  (∀ (B : Fp), Fp.sep (Fp.bs []) B = True) ∧
  (∀ (A : Fp), Fp.sep A (Fp.bs []) = True) ∧
  (∀ (b : Nat) (l : List Nat) (B : Fp), Fp.sep (Fp.bs (b :: l)) B = (Fp.out B b ∧ Fp.sep (Fp.bs l) B)) ∧
  (∀ (lo hi b : Nat) (l : List Nat), Fp.sep (Fp.rng lo hi) (Fp.bs (b :: l)) = (Fp.out (Fp.rng lo hi) b ∧ Fp.sep (Fp.rng lo hi) (Fp.bs l))) ∧
  (∀ {a b c d : Nat}, b ≤ c ∨ d ≤ a ∨ b ≤ a ∨ d ≤ c → Fp.sep (Fp.rng a b) (Fp.rng c d) = True) ∧
  (∀ {l : RL}, fpO' l none = []) ∧
  (∀ {l : RL} (x : Operand), fpO' l (some x) = fpV (aEval (regs l) x)) ∧
  (∀ (k : IntKind) (a : Int), fpV (Value.int k a) = []) ∧
  (∀ (w : BitVec 64), fpV (U w) = []) ∧
  (∀ (b : Bool), fpV (Value.bool b) = []) ∧
  (∀ (k : FloatKind) (a : Nat), fpV (Value.float k a) = []) ∧
  (∀ (k : FloatKind) (a b : Nat), fpV (Value.complex k a b) = []) ∧
  (∀ (s : ByteArray), fpV (Value.string s) = []) ∧
  (∀ (a : Array Value), fpV (Value.agg a) = []) ∧
  (∀ (a : Array Value), fpV (Value.tuple a) = []) ∧
  (∀ (f : Fn) (a b : Array Value), fpV (Value.func f a b) = []) ∧
  fpV (Value.map none) = [] ∧
  (∀ (b : Nat), fpV (Value.map (some b)) = [b]) ∧
  (∀ (t : TypeId) (v : Value), fpV (Value.iface t v) = []) ∧
  (fpV Value.nilIface = []) ∧
  (∀ (b o : Nat), fpV (Value.pointer (some { block := b, off := o })) = [b]) ∧
  (∀ (b o m e : Nat), fpV (Value.slice (some { block := b, off := o }) m e) = [b]) ∧
  (∀ (m e : Nat), fpV (Value.slice none m e) = []) ∧
  (∀ (b o s m e : Nat), fpV (Value.slice (some { block := b, off := o, spot := some s }) m e) = []) ∧
  (fpV (Value.pointer none) = []) ∧
  (cellsEq [] [] = true) ∧
  (∀ (x y : Value) (xs ys : List Value), cellsEq (x :: xs) (y :: ys) = (cellEq x y && cellsEq xs ys)) ∧
  (∀ (k k' : IntKind) (a b : Int), cellEq (Value.int k a) (Value.int k' b) = decide (a = b)) ∧
  (∀ (a b : Bool), cellEq (Value.bool a) (Value.bool b) = decide (a = b)) ∧
  (∀ (a b : ByteArray), cellEq (Value.string a) (Value.string b) = (a == b)) ∧
  (∀ (x y : BitVec 64), cellEq (U x) (U y) = decide (x = y)) ∧
  (∀ {P : Program} {t : TypeId} {xo yo : Operand} {a b : Bool}, Program.underlying P t = some TypeDesc.bool → aBin P BinOp.eql t xo yo (Value.bool a) (Value.bool b) = some (Value.bool (a == b))) ∧
  (∀ {P : Program} {t : TypeId} {xo yo : Operand} {a b : Bool}, Program.underlying P t = some TypeDesc.bool → aBin P BinOp.neq t xo yo (Value.bool a) (Value.bool b) = some (Value.bool !a == b)) ∧
  (∀ {P : Program} {may : Nat → Prop} {l : RL} {g : AMem} {n : Nat} {K : RL → AMem → Nat → Prop} {dst : Option Tmp} {fl : Bool} {ty : TypeId} (t : TypeId) (len : Nat) (parts : Array (Nat × Operand)), rdo P may dst fl ty (Op.buildSlice t len parts) K l g n = reff may dst fl K l g n (aOp P ty (aEval (regs l)) g n (Op.buildSlice t len parts))) ∧
  (∀ {P : Program} {may : Nat → Prop} {l : RL} {g : AMem} {n : Nat} {K : RL → AMem → Nat → Prop} {dst : Option Tmp} {fl : Bool} {ty : TypeId} (t : TypeId) (parts : Array (Nat × Operand)), rdo P may dst fl ty (Op.build t parts) K l g n = reff may dst fl K l g n (aOp P ty (aEval (regs l)) g n (Op.build t parts))) ∧
  (∀ {P : Program} {may : Nat → Prop} {l : RL} {g : AMem} {n : Nat} {K : RL → AMem → Nat → Prop} {dst : Option Tmp} {fl : Bool} {ty : TypeId} (t : TypeId) (x : Operand) (lo hi mx : Option Operand), rdo P may dst fl ty (Op.slice t x lo hi mx) K l g n = reff may dst fl K l g n (aOp P ty (aEval (regs l)) g n (Op.slice t x lo hi mx))) ∧
  (∀ (b o n e : Nat) (lo hi : Option Value), slR e (Value.slice (some { block := b, off := o }) n e) lo hi = slR2 b o n e (aBound 0 lo) (aBound n hi)) ∧
  (∀ (b o n e l h : Nat), slR2 b o n e (some l) (some h) = if l ≤ h ∧ h ≤ n then if l < n ∨ l = 0 then some (Value.slice (some { block := b, off := o + l * e }) (h - l) e) else some (Value.slice (some { block := b, off := o, spot := some 0 }) 0 e) else none) ∧
  (∀ (d : Nat), aBound d none = some d) ∧
  (∀ (d : Nat) (k : IntKind) (i : Int), aBound d (some (Value.int k i)) = if 0 ≤ i then some (Int.toNat i) else none) ∧
  (∀ (g : AMem) (m e b o : Nat), saR g m e (Value.pointer (some { block := b, off := o })) = if 0 < m ∧ rowHasR (g b) (o + m * e) = true then some (Value.slice (some { block := b, off := o }) m e) else none) ∧
  (∀ (cs : List Value) (r : Bool) (k : Nat), rowHasR (some (AObj.row cs r)) k = decide (k ≤ List.length cs)) ∧
  (∀ (g : AMem) (e b o dn m : Nat) (xs : List Value), cpR g e (Value.slice (some { block := b, off := o }) dn e) (some (m, xs)) = if Nat.min m dn = 0 then some (Value.int IntKind.i64 0, Eff.none) else cpR2 (g b) b o (Nat.min m dn) e xs) ∧
  (∀ (b o k e : Nat) (cs xs : List Value), cpR2 (some (AObj.row cs true)) b o k e xs = if List.all (List.take (k * e) xs) cellOk = true ∧ o + k * e ≤ List.length cs then some (Value.int IntKind.i64 ↑k, Eff.put b (AObj.row (splice cs o (List.take (k * e) xs)) true)) else none) ∧
  (∀ (z : List Value), zeroRow z 0 = []) ∧
  (∀ {a b : Nat}, a ≠ b → (a = b) = False) ∧
  (∀ {P : Program} {t : TypeId} {xo yo : Operand} {x y : BitVec 64}, y ≠ 0#64 → aBin P BinOp.quo t xo yo (U x) (U y) = some (U (x / y))) ∧
  (∀ {P : Program} {t : TypeId} {xo yo : Operand} {x y : BitVec 64}, y ≠ 0#64 → aBin P BinOp.rem t xo yo (U x) (U y) = some (U (x % y))) :=
  ⟨@aEval_U _, @splice_nil _, @splice_zero _, @splice_step _, @gset_gset _, @U_junk _, @U_cells _, @U_cellOk _, @ub_and _, @ub_or _, @ub_xor _, @ub_andNot _, @ub_add _, @ub_sub _, @ub_mul _, @ub_shl _, @ub_shr _, @ub_shl' _, @ub_shr' _, @ub_eql _, @ub_neq _, @ub_lss _, @ub_leq _, @ub_gtr _, @ub_geq _, @fillS_nil _, @fillS_cons _, @fillP_nil _, @fillP_cons _, @fillO_some _, @nthP_cons _, @zeroRow_one _, @aRead_at _, @aRead_nil _, @readR_row _, @appR_nil _, @appR_row _, @appR1_row _, @appR_zero _, @grow_row _, @rcallv_func _, @dcallv_func _, @deff_none _, @deff_new _, @deff_put _, @deff_move _, @dsep_idle' _, @dsep_nil _, @dsep_cons _, @dsep1_none _, @dsep1_some _, @dget_nil _, @dget_cons _, @out_nil _, @out_cons _, @out_rng _, @sep_nil _, @sep_nil' _, @sep_cons _, @sep_rcons _, @sep_rng _, @fpO'_none _, @fpO'_some _, @fpV_int _, @fpV_U _, @fpV_bool _, @fpV_float _, @fpV_complex _, @fpV_string _, @fpV_agg _, @fpV_tuple _, @fpV_func _, @fpV_map _, @fpV_mapb _, @fpV_iface _, @fpV_niliface _, @fpV_ptr _, @fpV_slice _, @fpV_slice0 _, @fpV_slice1 _, @fpV_nilptr _, @cellsEq_nil _, @cellsEq_cons _, @cellEq_int _, @cellEq_bool _, @cellEq_string _, @cellEq_U _, @bin_eql_bool _, @bin_neq_bool _, @rdo_buildSlice _, @rdo_build _, @rdo_slice _, @slR_at _, @slR2_some _, @aBound_none _, @aBound_some _, @saR_at _, @rowHasR_row _, @cpR_at _, @cpR2_row _, @zeroRow_zero _, @eqF_nat _, @ub_quo _, @ub_rem _⟩
theorem fitsR : (fitsB [] [] = true) ∧ (∀ (k : LK) (ks : List LK) (v : Value) (vs : List Value), fitsB (k :: ks) (v :: vs) = (fitsK k v && fitsB ks vs)) ∧ (∀ (k : IntKind) (n : Int), fitsK (.int k) (.int k n) = true) ∧ (∀ (b : Bool), fitsK .bool (.bool b) = true) ∧ (∀ (b : ByteArray), fitsK .str (.string b) = true) ∧ (∀ (w : BitVec 64), fitsK (.int .u64) (U w) = true) := ⟨fitsB_nil, fitsB_cons, fitsK_int, fitsK_bool, fitsK_str, fitsK_U⟩
end Go.Proofs.YtkcahnefekkfaaaAbs

namespace Go.Proofs.YtkcahnefekkfaaaAbs
open Go
variable [Base]
/-- Holds two ways fast: simp doesn't look into them. -/
inductive Tok (yes no : Prop) : Type where
  | mk : Tok yes no
def rstop (v : Value) (yes no : Prop) (_ : Tok yes no) : Prop := rcond v yes no
def gstop (v : Value) (want : Bool) (yes no : Prop) (_ : Tok yes no) : Prop := rgd v want yes no
theorem rcond_stop (v : Value) (yes no : Prop) : rcond v yes no = rstop v yes no .mk := rfl
theorem rgd_stop (v : Value) (want : Bool) (yes no : Prop) : rgd v want yes no = gstop v want yes no .mk := rfl
theorem rstop_true (yes no : Prop) (t : Tok yes no) : rstop (.bool true) yes no t = yes := rcond_true yes no
theorem rstop_false (yes no : Prop) (t : Tok yes no) : rstop (.bool false) yes no t = no := rcond_false yes no
theorem gstop_tt (yes no : Prop) (t : Tok yes no) : gstop (.bool true) true yes no t = yes := rgd_tt yes no
theorem gstop_tf (yes no : Prop) (t : Tok yes no) : gstop (.bool true) false yes no t = no := rgd_tf yes no
theorem gstop_ft (yes no : Prop) (t : Tok yes no) : gstop (.bool false) true yes no t = no := rgd_ft yes no
theorem gstop_ff (yes no : Prop) (t : Tok yes no) : gstop (.bool false) false yes no t = yes := rgd_ff yes no
theorem gstop_undef (want : Bool) (yes no : Prop) (t : Tok yes no) : gstop undef want yes no t = no := rgd_undef want yes no
theorem stops : (∀ (v : Value) (yes no : Prop), rcond v yes no = rstop v yes no .mk) ∧ (∀ (v : Value) (want : Bool) (yes no : Prop), rgd v want yes no = gstop v want yes no .mk) ∧
    (∀ (yes no : Prop) (t : Tok yes no), rstop (.bool true) yes no t = yes) ∧ (∀ (yes no : Prop) (t : Tok yes no), rstop (.bool false) yes no t = no) ∧
    (∀ (yes no : Prop) (t : Tok yes no), gstop (.bool true) true yes no t = yes) ∧ (∀ (yes no : Prop) (t : Tok yes no), gstop (.bool true) false yes no t = no) ∧
    (∀ (yes no : Prop) (t : Tok yes no), gstop (.bool false) true yes no t = no) ∧ (∀ (yes no : Prop) (t : Tok yes no), gstop (.bool false) false yes no t = yes) ∧
    (∀ (want : Bool) (yes no : Prop) (t : Tok yes no), gstop undef want yes no t = no) :=
  ⟨@rcond_stop _, @rgd_stop _, @rstop_true _, @rstop_false _, @gstop_tt _, @gstop_tf _, @gstop_ft _, @gstop_ff _, @gstop_undef _⟩
end Go.Proofs.YtkcahnefekkfaaaAbs

namespace Go.Proofs.YtkcahnefekkfaaaAbs
open Go
variable [Base]
def over (g h' : AMem) (n : Nat) : AMem := fun x => if n ≤ x then h' x else g x
theorem over_in {g h' : AMem} {n x : Nat} (h : n ≤ x) : over g h' n x = h' x := if_pos h
theorem over_out {g h' : AMem} {n x : Nat} (h : x < n) : over g h' n x = g x := if_neg (by omega)
section
variable {P : Program} {f : FuncId} {args : List Value} {g h' : AMem} {n n' : Nat} {v : Value}
theorem FnC.over0 (h : FnC P f args (fun _ => none) n (fun _ => False) v h' n') (hd : ∀ i, g i ≠ none → i < n) : FnC P f args g n (fun _ => False) v (over g h' n) n' := by
  intro ρ w cargs hbase hg hvs
  have h0 : GRep ρ (fun _ => none) n w := ⟨fun i o h => by simp at h, fun i j b h => by simp at h, hg.dom, hg.old⟩
  refine CallsX.mono (h ρ w cargs hbase h0 hvs) fun e w' ⟨cv, ρ', he, ht⟩ => ⟨cv, ρ', he, ?_⟩
  have hlt : ∀ {i}, over g h' n i ≠ none → ¬ n ≤ i → g i ≠ none := fun hi hn => by rw [over_out (by omega)] at hi; exact hi
  have hold : ∀ {i b}, ¬ n ≤ i → ρ' i = some b → ρ i = some b := fun hn h => by rw [← ht.ext _ (by omega)]; exact h
  refine ⟨ht.val, ⟨fun i o hi => ?_, fun i j b hi hj h1 h2 => ?_, ht.rep.dom, ht.rep.old⟩, ht.le, ht.ext, ht.frame, ht.fresh, fun i hi hn => by rw [over_out hi]; exact hn⟩
  · by_cases c : n ≤ i
    · rw [over_in c] at hi; exact ht.rep.obj i o hi
    · rw [over_out (by omega)] at hi
      obtain ⟨b, co, h1, h2, h3⟩ := hg.obj i o hi
      refine ⟨b, co, by rw [ht.ext i (by omega)]; exact h1, ?_, ?_⟩
      · rw [ht.frame.block b (hg.old i b h1) (fun ⟨_, _, hf, _⟩ => hf)]; exact h2
      · refine ORel.mono (fun j b hj => ?_) ht.frame.cells h3
        rw [ht.ext j (hg.lt hj)]; exact hj
  · by_cases ci : n ≤ i
    · by_cases cj : n ≤ j
      · rw [over_in ci] at hi; rw [over_in cj] at hj
        exact ht.rep.inj i j b hi hj h1 h2
      · have hb := hg.old j b (hold cj h2)
        rcases ht.fresh i b ci h1 with hf | ⟨_, _, hf, _⟩
        · omega
        · exact hf.elim
    · by_cases cj : n ≤ j
      · have hb := hg.old i b (hold ci h1)
        rcases ht.fresh j b cj h2 with hf | ⟨_, _, hf, _⟩
        · omega
        · exact hf.elim
      · exact hg.inj i j b (hlt hi ci) (hlt hj cj) (hold ci h1) (hold cj h2)
theorem over_kept (hd : ∀ i, g i ≠ none → i < n) (hk : Kept (fun _ => none) n h' n') : Kept g n (over g h' n) n' :=
  ⟨hk.le, fun i hi => over_out hi, fun i hi => by
    by_cases c : n ≤ i
    · rw [over_in c] at hi; exact hk.dom i hi
    · have := hk.le; omega⟩
theorem over_ext (hk : Kept (fun _ => none) n h' n') : ∀ x o, h' x = some o → over g h' n x = some o := fun x o hx => by
  by_cases c : n ≤ x
  · rw [over_in c]; exact hx
  · rw [hk.same x (by omega)] at hx; cases hx
/-- A closed call that makes blocks, in any heap. -/
theorem FnS.over0 {Post : Value → AMem → Nat → Prop} (h : FnS P f args (fun _ => none) n (fun _ => False) Post) (hk : ∀ v h' n', Post v h' n' → Kept (fun _ => none) n h' n') (hd : ∀ i, g i ≠ none → i < n) :
    FnS P f args g n (fun _ => False) fun v g' n' => ∃ h', Post v h' n' ∧ Kept g n g' n' ∧ ∀ x o, h' x = some o → g' x = some o := by
  obtain ⟨v, h', n', h1, h2⟩ := h
  have k := hk v h' n' h2
  exact ⟨v, over g h' n, n', h1.over0 hd, h', h2, over_kept hd k, over_ext k⟩
end
end Go.Proofs.YtkcahnefekkfaaaAbs

namespace Go.Proofs.YtkcahnefekkfaaaAbs
open Go Go.RowKit
variable [Base]
/-- Functions of which the value is known by a contract: they leave the heap as it is. -/
abbrev XExt := List (FuncId × (List Value → AMem → Nat → Option Value))
def XExt.find (t : XExt) (f : FuncId) : Option (List Value → AMem → Nat → Option Value) := match t with
  | [] => none
  | (k, e) :: r => if f = k then some e else XExt.find r f
/-- What the table says of a call. -/
def XExt.at (t : XExt) (f : FuncId) (args : List Value) (g : AMem) (n : Nat) : Option Value := match t.find f with
  | some e => e args g n
  | none => none
def ExtOne (P : Program) (f : FuncId) (e : List Value → AMem → Nat → Option Value) : Prop := ∀ args g n v, (∀ i, g i ≠ none → i < n) → e args g n = some v → goFn P f = true ∧ FnC P f args g n (fun _ => False) v g n
def ExtOk (P : Program) (t : XExt) : Prop := ∀ f e, t.find f = some e → ExtOne P f e
theorem ExtOk.nil {P : Program} : ExtOk P [] := fun f e h => by simp [XExt.find] at h
theorem ExtOk.cons {P : Program} {k : FuncId} {e : List Value → AMem → Nat → Option Value} {t : XExt} (h : ExtOne P k e) (ht : ExtOk P t) : ExtOk P ((k, e) :: t) := fun f e' hf => by
  simp only [XExt.find] at hf
  split at hf
  · rename_i hk; subst hk; cases hf; exact h
  · exact ht f e' hf
/-- A function that the model knows. -/
def xext (P : Program) (e : Array Value → Sem Value) (args : List Value) (g : AMem) (n : Nat) : Option Value :=
  if args.all flatV = true then pureFlat P (e args.toArray) else none
theorem xext_ok {P : Program} {f : FuncId} {e : Array Value → Sem Value} (h : extFn P f = some e) : ExtOne P f (xext P e) := fun args g n v hd he => by
  unfold xext at he
  split at he
  · rename_i hfl
    refine ⟨?_, fnC_ext h hfl he⟩
    unfold goFn
    have h2 := h
    unfold extFn at h2
    split at h2
    · rename_i fn hfn
      simp only [hfn, h, Option.isSome_some, Bool.or_true]
    · cases h2
  · cases he
/-- A call. 'k' bounds the rounds, the first number the depth. -/
def xfnE (P : Program) (tab : XTab) (ext : XExt) (k : Nat) : Nat → XCall
  | 0, _, _, _, _ => none
  | d + 1, f, args, g, n => match ext.at f args g n with
    | some v => some ⟨v, g, n, n, true⟩
    | none => match tab.find f with
      | none => none
      | some (rc, rs, na) => if args.length = na then match xcode P (xfnE P tab ext k d) k rc (argL 0 args) g n n with
        | some (e, l, g1, n1, low) => if Exit.fine e then match aResults P g1 (regs l) rs with
          | some v => if flatR v && decide (n ≤ low) then some ⟨v, g, n, n, true⟩ else some ⟨v, g1, n1, low, false⟩
          | none => none
          else none
        | none => none
        else none
theorem xfnE_ok {P : Program} (hm : P.follows .mixedOrders = true) {tab : XTab} (ht : TabOk P tab) {ext : XExt} (hx : ExtOk P ext) (k : Nat) : ∀ d, CallOk P (xfnE P tab ext k d)
  | 0 => fun f args g n r hd h => by simp [xfnE] at h
  | d + 1 => fun f args g n r hd h => by
    simp only [xfnE] at h
    split at h
    · rename_i v hv
      have hv := hv
      unfold XExt.at at hv
      split at hv
      · rename_i e he
        obtain ⟨h1, h2⟩ := hx f e he args g n v hd hv
        simp only [Option.some.injEq] at h
        subst h
        exact ⟨h1, h2.touches fun i _ h => h.elim, fun _ => ⟨rfl, rfl⟩, Nat.le_refl _, fun _ _ _ => rfl, hd⟩
      · cases hv
    · split at h
      · cases h
      · rename_i rc rs na hf
        have hfn := ht f rc rs na hf
        split at h
        · rename_i hna
          split at h
          · rename_i e l g1 n1 low hx'
            obtain ⟨hs1, hs2⟩ := xcode_sound (xfnE_ok hm ht hx k d) k rc _ _ _ _ _ _ _ _ e hd hx'
            split at h
            · rename_i he
              split at h
              · rename_i v hv
                have he' : e = .normal ∨ e = .ret := by cases e <;> first | exact .inl rfl | exact .inr rfl | (simp [Exit.fine] at he)
                split at h
                · rename_i hfl
                  simp only [Bool.and_eq_true, decide_eq_true_eq] at hfl
                  simp only [Option.some.injEq] at h
                  subst h
                  refine ⟨hfn.go, ?_, fun _ => ⟨rfl, rfl⟩, Nat.le_refl _, fun _ _ _ => rfl, hd⟩
                  refine fnC_of_rwp hfn hm hna fun hdom => ?_
                  refine rwp_may (may := fun i => low ≤ i) (fun i hi hn => by show n ≤ i; omega) (hs2 low _ (Nat.le_refl _) ?_)
                  refine ⟨he', v, hv, .inl ⟨id, Nat.le_refl _, fun _ _ => rfl, fun i h1 _ => h1, fun i j _ _ h => h, flatR_ren hfl.1, fun i o hi => ?_, fun i _ h => h⟩⟩
                  have hi : g i = some o := hi
                  have hlt := hdom i (by rw [hi]; simp)
                  refine ⟨hlt, .inl ⟨hlt, hi, ?_⟩⟩
                  rw [hs1.same i (by omega) hlt]; exact hi
                · simp only [Option.some.injEq] at h
                  subst h
                  refine ⟨hfn.go, ?_, fun e => (by cases e), hs1.le, hs1.same, hs1.dom⟩
                  refine fnC_of_rwp hfn hm hna fun hdom => ?_
                  exact rwp_may (may := fun i => low ≤ i) (fun i hi _ => hi) (hs2 low _ (Nat.le_refl _) ⟨he', v, hv, .inr ⟨rfl, rfl, rfl⟩⟩)
              · cases h
            · cases h
          · cases h
        · cases h
end Go.Proofs.YtkcahnefekkfaaaAbs

namespace Go.Proofs.YtkcahnefekkfaaaAbs.Flt
open Go Ieee
abbrev D := Ieee.double
theorem fb : D.fractionBits = 52 := rfl
theorem bin : D.binade = 4503599627370496 := by decide
theorem lp : D.leastPlace = -1074 := by decide
theorem sw : D.signWeight = 9223372036854775808 := by decide
theorem inf : D.infRung = 9218868437227405312 := by decide

theorem signed_eq (s : Bool) (m k : Nat) : signed s m k = (if s then -1 else 1) * ((m : Int) * 2 ^ k) := by
  unfold signed
  rw [Nat.shiftLeft_eq]
  cases s <;> simp
theorem signed_add (s : Bool) (m k j : Nat) : signed s m (k + j) = signed s m k * 2 ^ j := by
  rw [signed_eq, signed_eq, Int.pow_add, Int.mul_assoc, Int.mul_assoc]
theorem signed_mul (s : Bool) (m k j : Nat) : signed s (m * 2 ^ j) k = signed s m (k + j) := by
  rw [signed_eq, signed_eq, Int.pow_add]
  push_cast
  rw [Int.mul_assoc (m : Int), Int.mul_comm (2 ^ j : Int)]
theorem pow_pos2 (j : Nat) : (0 : Int) < 2 ^ j := Int.pow_pos (by decide)
theorem compare_mul (x y : Int) (j : Nat) : compare (x * 2 ^ j) (y * 2 ^ j) = compare x y := by
  have hp := pow_pos2 j
  have h1 : x * 2 ^ j < y * 2 ^ j ↔ x < y := Int.mul_lt_mul_right hp
  have h2 : y * 2 ^ j < x * 2 ^ j ↔ y < x := Int.mul_lt_mul_right hp
  simp only [compare, compareOfLessAndEq]
  by_cases a : x < y
  · rw [if_pos a, if_pos (h1.2 a)]
  · rw [if_neg a, if_neg (fun h => a (h1.1 h))]
    by_cases b : x = y
    · rw [if_pos b, if_pos (by rw [b])]
    · rw [if_neg b, if_neg ?_]
      intro h
      have := Int.eq_of_mul_eq_mul_right (by omega) h
      exact b this
/-- Any base will do. -/
theorem order_base (s t : Bool) (m n : Nat) (i j b : Int) (hi : b ≤ i) (hj : b ≤ j) : Datum.order (.number s m i) (.number t n j) = some (compare (signed s m (i - b).toNat) (signed t n (j - b).toNat)) := by
  simp only [Datum.order]
  have h : min i j = b + ((min i j - b).toNat : Int) := by omega
  obtain ⟨k, hk⟩ : ∃ k : Nat, k = (min i j - b).toNat := ⟨_, rfl⟩
  rw [← hk] at h
  have e1 : (i - b).toNat = (i - min i j).toNat + k := by omega
  have e2 : (j - b).toNat = (j - min i j).toNat + k := by omega
  rw [e1, e2, signed_add, signed_add, compare_mul]
theorem order_scale_r (s t : Bool) (m n : Nat) (i j : Int) (k : Nat) : Datum.order (.number s m i) (.number t (n * 2 ^ k) (j - k)) = Datum.order (.number s m i) (.number t n j) := by
  rw [order_base s t m (n * 2 ^ k) i (j - k) (min i (j - k)) (by omega) (by omega), order_base s t m n i j (min i (j - k)) (by omega) (by omega), signed_mul]
  congr 4; omega
theorem order_scale_l (s t : Bool) (m n : Nat) (i j : Int) (k : Nat) : Datum.order (.number s (m * 2 ^ k) (i - k)) (.number t n j) = Datum.order (.number s m i) (.number t n j) := by
  rw [order_base s t (m * 2 ^ k) n (i - k) j (min (i - k) j) (by omega) (by omega), order_base s t m n i j (min (i - k) j) (by omega) (by omega), signed_mul]
  congr 4; omega
/-- A whole number, written and read. -/
theorem read_near (s : Bool) (m : Nat) (hm : 0 < m) (hb : m < 9007199254740992) : D.read (D.nearest s m 0) = .number s (m * 2 ^ (52 - m.log2)) (m.log2 - (52 : Nat)) := by
  have hl : m.log2 ≤ 52 := by
    have : m.log2 < 53 := (Nat.log2_lt (by omega)).2 (by omega)
    omega
  have h1 : 2 ^ m.log2 ≤ m := Nat.log2_self_le (by omega)
  have h2 : m < 2 ^ (m.log2 + 1) := Nat.lt_log2_self
  generalize hL : m.log2 = l at hl h1 h2 ⊢
  have hkept : ∀ K : Nat, Toward.even.cut s K 0 = K := fun K => by
    simp only [Toward.cut, Nat.zero_min, Nat.shiftLeft_zero, Nat.div_one, Nat.mod_one]
    simp
  have hlast : max ((0 : Int) + (l : Int) - (52 : Nat)) (-1074) = (l : Int) - 52 := by omega
  have hp : 2 ^ l * 2 ^ (52 - l) = 4503599627370496 := by rw [← Nat.pow_add, show l + (52 - l) = 52 by omega]
  have hp2 : 2 ^ (l + 1) * 2 ^ (52 - l) = 9007199254740992 := by rw [← Nat.pow_add, show l + 1 + (52 - l) = 53 by omega]
  have k1 : 4503599627370496 ≤ m * 2 ^ (52 - l) := by rw [← hp]; exact Nat.mul_le_mul_right _ h1
  have k2 : m * 2 ^ (52 - l) < 9007199254740992 := by rw [← hp2]; exact Nat.mul_lt_mul_of_pos_right h2 (Nat.two_pow_pos _)
  have hnear : D.nearest s m 0 = D.word s ((l + 1022) * 4503599627370496 + m * 2 ^ (52 - l)) := by
    unfold Format.nearest
    rw [if_neg (by omega)]
    simp only [fb, lp, bin, inf, hL, hlast]
    rw [show ((l : Int) - 52 - 0).toNat = 0 by omega, show ((0 : Int) - ((l : Int) - 52)).toNat = 52 - l by omega, hkept, Nat.shiftLeft_eq, show ((l : Int) - 52 - (-1074)).toNat = l + 1022 by omega]
    congr 1
    omega
  rw [hnear]
  generalize m * 2 ^ (52 - l) = K at k1 k2 ⊢
  unfold Format.read Format.word
  simp only [sw, bin, inf, lp]
  have r1 : (if s = true then 9223372036854775808 + ((l + 1022) * 4503599627370496 + K) else (l + 1022) * 4503599627370496 + K) % 9223372036854775808 = (l + 1022) * 4503599627370496 + K := by
    cases s <;> simp <;> omega
  have r2 : ((if s = true then 9223372036854775808 + ((l + 1022) * 4503599627370496 + K) else (l + 1022) * 4503599627370496 + K) / 9223372036854775808 % 2 == 1) = s := by
    cases s <;> simp <;> omega
  rw [r1, r2, if_neg (by omega), if_pos (by omega)]
  congr 1 <;> omega
theorem read_zero (s : Bool) : D.read (D.nearest s 0 0) = .number s 0 (-1074) := by cases s <;> decide
theorem order_zero_r (s t : Bool) (m : Nat) (i j j' : Int) : Datum.order (.number s m i) (.number t 0 j) = Datum.order (.number s m i) (.number t 0 j') := by
  rw [order_base s t m 0 i j (min i (min j j')) (by omega) (by omega), order_base s t m 0 i j' (min i (min j j')) (by omega) (by omega)]
  simp [signed_eq]
theorem order_zero_l (s t : Bool) (n : Nat) (i i' j : Int) : Datum.order (.number s 0 i) (.number t n j) = Datum.order (.number s 0 i') (.number t n j) := by
  rw [order_base s t 0 n i j (min (min i i') j) (by omega) (by omega), order_base s t 0 n i' j (min (min i i') j) (by omega) (by omega)]
  simp [signed_eq]
/-- How a number stands to a whole one that was written. -/
theorem order_near_r (s t : Bool) (m n : Nat) (i : Int) (hb : n < 9007199254740992) : Datum.order (.number s m i) (D.read (D.nearest t n 0)) = Datum.order (.number s m i) (.number t n 0) := by
  by_cases h : n = 0
  · subst h; rw [read_zero]; exact order_zero_r ..
  · rw [read_near t n (by omega) hb]
    have hl : n.log2 ≤ 52 := by
      have : n.log2 < 53 := (Nat.log2_lt (by omega)).2 (by omega)
      omega
    rw [show ((n.log2 : Int) - (52 : Nat)) = 0 - ((52 - n.log2 : Nat) : Int) by omega, order_scale_r]
theorem order_near_l (s t : Bool) (m n : Nat) (j : Int) (hb : m < 9007199254740992) : Datum.order (D.read (D.nearest s m 0)) (.number t n j) = Datum.order (.number s m 0) (.number t n j) := by
  by_cases h : m = 0
  · subst h; rw [read_zero]; exact order_zero_l ..
  · rw [read_near s m (by omega) hb]
    have hl : m.log2 ≤ 52 := by
      have : m.log2 < 53 := (Nat.log2_lt (by omega)).2 (by omega)
      omega
    rw [show ((m.log2 : Int) - (52 : Nat)) = 0 - ((52 - m.log2 : Nat) : Int) by omega, order_scale_l]
end Go.Proofs.YtkcahnefekkfaaaAbs.Flt

set_option maxRecDepth 100000
namespace Go.Proofs.YtkcahnefekkfaaaAbs.Flt
open Go Ieee
def eqF (x y : Nat) : Bool := D.order x y == some .eq
def geF (x y : Nat) : Bool := D.order x y == some .gt || D.order x y == some .eq
def leF (x y : Nat) : Bool := D.order x y == some .lt || D.order x y == some .eq
def ltF (x y : Nat) : Bool := D.order x y == some .lt
/-- 2^40, -2^40. -/
def top : Nat := D.nearest false 1099511627776 0
def low : Nat := D.nearest true 1099511627776 0
def cutF (m : Nat) (e : Int) : Nat := (m * 2 ^ e.toNat) / 2 ^ (-e).toNat
theorem cut_zero (s : Bool) (n drop : Nat) : Toward.zero.cut s n drop = n / 2 ^ drop := by
  simp only [Toward.cut, Bool.toNat_false, Nat.add_zero, Nat.shiftLeft_eq, Nat.one_mul]
  by_cases h : drop ≤ n.log2 + 2
  · rw [Nat.min_eq_left h]
  · rw [Nat.min_eq_right (by omega)]
    have h1 : n < 2 ^ (n.log2 + 2) := Nat.lt_of_lt_of_le Nat.lt_log2_self (Nat.pow_le_pow_right (by decide) (by omega))
    have h2 : n < 2 ^ drop := Nat.lt_of_lt_of_le h1 (Nat.pow_le_pow_right (by decide) (by omega))
    rw [Nat.div_eq_of_lt h1, Nat.div_eq_of_lt h2]
theorem integral_eq (s : Bool) (m : Nat) (e : Int) : (Datum.number s m e).integral .zero = .number s (cutF m e) 0 := by
  simp only [Datum.integral, cut_zero, Nat.shiftLeft_eq, cutF]
/-- A float that lies between. -/
theorem betweenM {M x : Nat} (hM0 : 0 < M) (hM : M < 9007199254740992) (h1 : geF x (D.nearest true M 0) = true) (h2 : leF x (D.nearest false M 0) = true) : ∃ s m e, D.read x = .number s m e ∧ cutF m e ≤ M := by
  unfold geF Format.order at h1
  unfold leF Format.order at h2
  cases hd : D.read x with
  | nan s f => rw [hd] at h1; simp [Datum.order] at h1
  | infinity s =>
    rw [hd, read_near _ _ hM0 hM] at h1
    rw [hd, read_near _ _ hM0 hM] at h2
    cases s <;> simp [Datum.order] at h1 h2
  | number s m e =>
    refine ⟨s, m, e, rfl, ?_⟩
    rw [hd, order_near_r _ _ _ _ _ hM] at h1
    rw [hd, order_near_r _ _ _ _ _ hM] at h2
    rw [order_base _ _ _ _ _ _ (min e 0) (by omega) (by omega)] at h1 h2
    simp only [signed_eq] at h1 h2
    have hb : m * 2 ^ (e - min e 0).toNat ≤ M * 2 ^ (0 - min e 0).toNat := by
      generalize h3 : (e - min e 0).toNat = p at h1 h2
      generalize h4 : (0 - min e 0).toNat = q at h1 h2
      have e1 : ∀ a b : Int, (some (compare a b) == some Ordering.lt || some (compare a b) == some Ordering.eq) = true → a ≤ b := fun a b h => by
        simp only [compare, compareOfLessAndEq] at h
        by_cases c : a < b
        · omega
        · rw [if_neg c] at h
          by_cases c2 : a = b
          · omega
          · rw [if_neg c2] at h; simp at h
      have e2 : ∀ a b : Int, (some (compare a b) == some Ordering.gt || some (compare a b) == some Ordering.eq) = true → b ≤ a := fun a b h => by
        simp only [compare, compareOfLessAndEq] at h
        by_cases c : a < b
        · rw [if_pos c] at h; simp at h
        · omega
      have g1 := e2 _ _ h1
      have g2 := e1 _ _ h2
      have c1 : ((m * 2 ^ p : Nat) : Int) = (m : Int) * 2 ^ p := by push_cast; rfl
      have c2 : ((M * 2 ^ q : Nat) : Int) = (M : Int) * 2 ^ q := by push_cast; rfl
      have g1' : -((M : Int) * 2 ^ q) ≤ (if s = true then -1 else 1) * ((m : Int) * 2 ^ p) := by
        have := g1
        simp only [if_true] at this
        have e : (-1 : Int) * ((M : Int) * 2 ^ q) = -((M : Int) * 2 ^ q) := by omega
        rw [e] at this; exact this
      have g2' : (if s = true then -1 else 1) * ((m : Int) * 2 ^ p) ≤ (M : Int) * 2 ^ q := by
        have := g2
        simp only [Bool.false_eq_true, if_false, Int.one_mul] at this
        exact this
      cases s
      · simp only [Bool.false_eq_true, if_false, Int.one_mul] at g2'; omega
      · simp only [if_true] at g1'; omega
    unfold cutF
    by_cases he : 0 ≤ e
    · rw [show min e 0 = 0 by omega, show (0 - 0 : Int).toNat = 0 from rfl, Int.sub_zero] at hb
      rw [show (-e).toNat = 0 by omega]
      simpa using hb
    · rw [show min e 0 = e by omega, Int.sub_self, show (0 - e).toNat = (-e).toNat by omega] at hb
      rw [show e.toNat = 0 by omega, Nat.pow_zero, Nat.mul_one]
      have hp := Nat.two_pow_pos (-e).toNat
      simp only [Int.toNat_zero, Nat.pow_zero, Nat.mul_one] at hb
      rw [Nat.div_le_iff_le_mul hp]
      omega
theorem between {x : Nat} (h1 : geF x low = true) (h2 : leF x top = true) : ∃ s m e, D.read x = .number s m e ∧ cutF m e ≤ 1099511627776 := betweenM (by decide) (by decide) h1 h2
end Go.Proofs.YtkcahnefekkfaaaAbs.Flt

namespace Go.Proofs.YtkcahnefekkfaaaAbs.Flt
open Go Ieee
def truncF (x : Nat) : Nat := D.write ((D.read x).integral .zero)
def nearF (n : Int) : Nat := D.nearest (decide (n < 0)) n.natAbs 0
def intF (x : Nat) : Int := match (D.read x).toInt .zero with
  | some n => n
  | none => 0
def sgnF (x : Nat) : Bool := decide (9223372036854775808 ≤ x)
def zeroF : Nat := 0
def oneF : Nat := 4607182418800017408
theorem read0 : D.read 0 = .number false 0 (-1074) := by decide
theorem read1 : D.read oneF = .number false 4503599627370496 (-52) := by decide
theorem eq_iff (a b : Int) : (some (compare a b) == some Ordering.eq) = decide (a = b) := by
  simp only [compare, compareOfLessAndEq]
  by_cases c : a < b
  · rw [if_pos c, decide_eq_false (by omega)]; rfl
  · rw [if_neg c]
    by_cases c2 : a = b
    · rw [if_pos c2, decide_eq_true c2]; rfl
    · rw [if_neg c2, decide_eq_false c2]; rfl
theorem order_comm_eq (d d' : Datum) : (Datum.order d d' == some .eq) = (Datum.order d' d == some .eq) := by
  cases d with
  | nan => cases d' <;> rfl
  | infinity s => cases d' with
    | nan => rfl
    | infinity t => cases s <;> cases t <;> rfl
    | number t n j => cases s <;> rfl
  | number s m e => cases d' with
    | nan => rfl
    | infinity t => cases t <;> rfl
    | number t n j =>
      rw [order_base _ _ _ _ _ _ (min e j) (by omega) (by omega), order_base _ _ _ _ _ _ (min e j) (by omega) (by omega), eq_iff, eq_iff]
      by_cases h : signed s m (e - min e j).toNat = signed t n (j - min e j).toNat
      · rw [decide_eq_true h, decide_eq_true h.symm]
      · rw [decide_eq_false h, decide_eq_false (fun h' => h h'.symm)]
theorem signed0 (s : Bool) (m : Nat) : signed s m 0 = if s then -(m : Int) else m := by
  rw [signed_eq]; cases s <;> simp
theorem intF_eq {x : Nat} {s : Bool} {m : Nat} {e : Int} (hd : D.read x = .number s m e) : intF x = if s then -(cutF m e : Int) else cutF m e := by
  unfold intF Datum.toInt
  rw [hd, integral_eq]
  exact signed0 s _
theorem truncF_eq {x : Nat} {s : Bool} {m : Nat} {e : Int} (hd : D.read x = .number s m e) : truncF x = D.nearest s (cutF m e) 0 := by
  unfold truncF; rw [hd, integral_eq]; rfl
/-- Is it the whole number that it is cut to? -/
theorem eq_trunc {x : Nat} {s : Bool} {m : Nat} {e : Int} (hd : D.read x = .number s m e) (hT : cutF m e < 9007199254740992) :
    eqF x (truncF x) = decide (signed s m (e - min e 0).toNat = signed s (cutF m e) (0 - min e 0).toNat) := by
  unfold eqF Format.order
  rw [truncF_eq hd, hd, order_near_r _ _ _ _ _ hT, order_base _ _ _ _ _ _ (min e 0) (by omega) (by omega), eq_iff]
theorem eq_near {x : Nat} {s : Bool} {m : Nat} {e : Int} (hd : D.read x = .number s m e) (hT : cutF m e < 9007199254740992) :
    eqF (nearF (intF x)) x = decide (signed s m (e - min e 0).toNat = signed s (cutF m e) (0 - min e 0).toNat) := by
  have hna : (intF x).natAbs = cutF m e := by rw [intF_eq hd]; split <;> omega
  unfold eqF Format.order nearF
  rw [hna, order_comm_eq, hd, order_near_r _ _ _ _ _ hT, order_base _ _ _ _ _ _ (min e 0) (by omega) (by omega), eq_iff]
  have : signed (decide (intF x < 0)) (cutF m e) (0 - min e 0).toNat = signed s (cutF m e) (0 - min e 0).toNat := by
    rw [intF_eq hd]
    by_cases h0 : cutF m e = 0
    · rw [h0]; simp [signed_eq]
    · cases s
      · rw [decide_eq_false (by simp)]
      · rw [decide_eq_true (by simp; omega)]
  rw [this]
theorem eqF_near {x : Nat} {s : Bool} {m : Nat} {e : Int} (hd : D.read x = .number s m e) (hT : cutF m e < 9007199254740992) : eqF (nearF (intF x)) x = eqF x (truncF x) := by rw [eq_trunc hd hT, eq_near hd hT]
theorem signed_zero {s : Bool} {m k : Nat} : signed s m k = 0 ↔ m = 0 := by
  rw [signed_eq]
  have hp := pow_pos2 k
  have hz : (m : Int) * 2 ^ k = 0 ↔ m = 0 := by
    constructor
    · intro h
      rcases Int.mul_eq_zero.1 h with h | h
      · omega
      · omega
    · intro h; rw [h]; simp
  cases s <;> simp <;> omega
theorem eq_zero {x : Nat} {s : Bool} {m : Nat} {e : Int} (hd : D.read x = .number s m e) : eqF x zeroF = decide (m = 0) := by
  unfold eqF Format.order zeroF
  rw [hd, read0, order_zero_r (j' := e), order_base _ _ _ _ _ _ e (by omega) (by omega), eq_iff, Int.sub_self]
  have h0 : signed false 0 (0 : Int).toNat = 0 := by simp [signed_eq]
  rw [h0]
  have := signed_zero (s := s) (m := m) (k := (0 : Int).toNat)
  by_cases h : m = 0
  · rw [decide_eq_true (this.2 h), decide_eq_true h]
  · rw [decide_eq_false (fun h' => h (this.1 h')), decide_eq_false h]
theorem zero_iff {x : Nat} {s : Bool} {m : Nat} {e : Int} (hd : D.read x = .number s m e) (hT : cutF m e < 9007199254740992) (h : eqF x (truncF x) = true) : eqF x zeroF = decide (intF x = 0) := by
  rw [eq_zero hd]
  rw [eq_trunc hd hT] at h
  have h := of_decide_eq_true h
  have hi : intF x = 0 ↔ cutF m e = 0 := by rw [intF_eq hd]; split <;> omega
  have : m = 0 ↔ cutF m e = 0 := by
    constructor
    · intro h0; subst h0; simp [cutF]
    · intro h0
      rw [h0, (signed_zero (s := s) (m := 0)).2 rfl] at h
      exact signed_zero.1 h
  by_cases c : m = 0
  · rw [decide_eq_true c, decide_eq_true (hi.2 (this.1 c))]
  · rw [decide_eq_false c, decide_eq_false (fun h' => c (this.2 (hi.1 h')))]
theorem sign_read {x : Nat} {s : Bool} {m : Nat} {e : Int} (hx : x < 18446744073709551616) (hd : D.read x = .number s m e) : s = sgnF x := by
  have key : ∀ {a : Bool}, (Datum.number a) = (Datum.number a) := rfl
  have : s = (x / D.signWeight % 2 == 1) := by
    unfold Format.read at hd
    simp only at hd
    split at hd
    · cases hd; rfl
    · split at hd
      · cases hd; rfl
      · split at hd <;> cases hd
  rw [this, sw, sgnF]
  by_cases h : 9223372036854775808 ≤ x
  · rw [decide_eq_true h, beq_iff_eq]; omega
  · rw [decide_eq_false h]
    simp; omega
theorem div_zero {x : Nat} {s : Bool} {e : Int} (hd : D.read x = .number s 0 e) : D.div oneF x = some (D.word s D.infRung) := by
  unfold Format.div
  rw [hd, read1]
  cases s <;> rfl
theorem lt_inf (s : Bool) : ltF (D.word s D.infRung) zeroF = s := by cases s <;> decide
def wholeF (x : Nat) : Int × Bool := if geF x low = true ∧ leF x top = true ∧ eqF x (truncF x) = true ∧ ¬ (eqF x zeroF = true ∧ sgnF x = true) then (intF x, true) else (0, false)
theorem intF_le {x : Nat} (h1 : geF x low = true) (h2 : leF x top = true) : -1099511627776 ≤ intF x ∧ intF x ≤ 1099511627776 := by
  obtain ⟨s, m, e, hd, hT⟩ := between h1 h2
  rw [intF_eq hd]; split <;> omega
theorem wholeF_in {x : Nat} : -1099511627776 ≤ (wholeF x).1 ∧ (wholeF x).1 ≤ 1099511627776 := by
  unfold wholeF
  split
  · rename_i h; exact intF_le h.1 h.2.1
  · simp
/-! ### Whole numbers, written -/
theorem near_read {n : Int} (h : n.natAbs < 9007199254740992) (h0 : n ≠ 0) : D.read (nearF n) = .number (decide (n < 0)) (n.natAbs * 2 ^ (52 - n.natAbs.log2)) (n.natAbs.log2 - (52 : Nat)) := read_near _ _ (by omega) h
theorem near_zero : nearF 0 = 0 := by decide
theorem near_cut {n : Int} (h : n.natAbs < 9007199254740992) (h0 : n ≠ 0) : cutF (n.natAbs * 2 ^ (52 - n.natAbs.log2)) (n.natAbs.log2 - (52 : Nat)) = n.natAbs := by
  have hl : n.natAbs.log2 ≤ 52 := by
    have : n.natAbs.log2 < 53 := (Nat.log2_lt (by omega)).2 (by omega)
    omega
  unfold cutF
  rw [show ((n.natAbs.log2 : Int) - (52 : Nat)).toNat = 0 by omega, show (-((n.natAbs.log2 : Int) - (52 : Nat))).toNat = 52 - n.natAbs.log2 by omega, Nat.pow_zero, Nat.mul_one, Nat.mul_div_cancel _ (Nat.two_pow_pos _)]
theorem near_int {n : Int} (h : n.natAbs < 9007199254740992) : intF (nearF n) = n := by
  by_cases h0 : n = 0
  · subst h0; decide
  · rw [intF_eq (near_read h h0), near_cut h h0]
    by_cases hn : n < 0
    · rw [if_pos (by simpa using hn)]; omega
    · rw [if_neg (by simpa using hn)]; omega
theorem near_lt (n : Int) (h : n.natAbs < 9007199254740992) : nearF n < 18446744073709551616 := by
  unfold nearF Format.nearest
  split
  · cases decide (n < 0) <;> decide
  · unfold Format.word
    have := Nat.min_le_right ((max ((0 : Int) + (n.natAbs.log2 : Int) - D.fractionBits) D.leastPlace - D.leastPlace).toNat * D.binade + Toward.even.cut (decide (n < 0)) (n.natAbs <<< (0 - max ((0 : Int) + (n.natAbs.log2 : Int) - D.fractionBits) D.leastPlace).toNat) (max ((0 : Int) + (n.natAbs.log2 : Int) - D.fractionBits) D.leastPlace - 0).toNat) D.infRung
    rw [inf] at this
    simp only [sw, inf] at this ⊢
    split <;> omega
theorem eq_near_near {m n : Int} (hm : m.natAbs < 9007199254740992) (hn : n.natAbs < 9007199254740992) : eqF (nearF m) (nearF n) = decide (m = n) := by
  unfold eqF Format.order nearF
  by_cases h0 : m.natAbs = 0
  · have e0 : D.read (D.nearest (decide (m < 0)) m.natAbs 0) = .number (decide (m < 0)) 0 (-1074) := by rw [h0, read_zero]
    rw [e0, order_near_r _ _ _ _ _ hn, order_zero_l (i' := 0), order_base _ _ _ _ _ _ 0 (by omega) (by omega), eq_iff]
    simp only [Int.sub_self, Int.toNat_zero, signed0]
    congr 1
    rw [decide_eq_false (show ¬ m < 0 by omega)]
    apply propext
    by_cases hn0 : n < 0
    · simp [hn0]; omega
    · simp [hn0]; omega
  · rw [read_near _ _ (by omega) hm, order_near_r _ _ _ _ _ hn]
    have hl : m.natAbs.log2 ≤ 52 := by
      have : m.natAbs.log2 < 53 := (Nat.log2_lt (by omega)).2 (by omega)
      omega
    rw [show ((m.natAbs.log2 : Int) - (52 : Nat)) = 0 - ((52 - m.natAbs.log2 : Nat) : Int) by omega, order_scale_l, order_base _ _ _ _ _ _ 0 (by omega) (by omega), eq_iff]
    simp only [Int.sub_self, Int.toNat_zero, signed0]
    congr 1
    apply propext
    by_cases hn0 : n < 0 <;> by_cases hm0 : m < 0 <;> simp [hn0, hm0] <;> omega
theorem near_in {n : Int} (h1 : -1099511627776 ≤ n) (h2 : n ≤ 1099511627776) : geF (nearF n) low = true ∧ leF (nearF n) top = true := by
  have hb : n.natAbs < 9007199254740992 := by omega
  have key : ∀ (t : Bool) (M : Nat), M < 9007199254740992 → Datum.order (D.read (nearF n)) (D.read (D.nearest t M 0)) = some (compare n (if t then -(M : Int) else M)) := by
    intro t M hM
    unfold nearF
    by_cases h0 : n.natAbs = 0
    · have e0 : D.read (D.nearest (decide (n < 0)) n.natAbs 0) = .number (decide (n < 0)) 0 (-1074) := by rw [h0, read_zero]
      rw [e0, order_near_r _ _ _ _ _ hM, order_zero_l (i' := 0), order_base _ _ _ _ _ _ 0 (by omega) (by omega)]
      simp only [Int.sub_self, Int.toNat_zero, signed0]
      congr 2
      rw [decide_eq_false (show ¬ n < 0 by omega)]
      simp; omega
    · rw [read_near _ _ (by omega) hb, order_near_r _ _ _ _ _ hM]
      have hl : n.natAbs.log2 ≤ 52 := by
        have : n.natAbs.log2 < 53 := (Nat.log2_lt (by omega)).2 (by omega)
        omega
      rw [show ((n.natAbs.log2 : Int) - (52 : Nat)) = 0 - ((52 - n.natAbs.log2 : Nat) : Int) by omega, order_scale_l, order_base _ _ _ _ _ _ 0 (by omega) (by omega)]
      simp only [Int.sub_self, Int.toNat_zero, signed0]
      congr 2
      by_cases hn0 : n < 0 <;> simp [hn0] <;> omega
  have cmp1 : ∀ a b : Int, b ≤ a → (some (compare a b) == some Ordering.gt || some (compare a b) == some Ordering.eq) = true := fun a b h => by
    simp only [compare, compareOfLessAndEq]
    rw [if_neg (by omega)]
    split <;> rfl
  have cmp2 : ∀ a b : Int, a ≤ b → (some (compare a b) == some Ordering.lt || some (compare a b) == some Ordering.eq) = true := fun a b h => by
    simp only [compare, compareOfLessAndEq]
    by_cases c : a < b
    · rw [if_pos c]; rfl
    · rw [if_neg c, if_pos (by omega)]; rfl
  constructor
  · unfold geF Format.order low
    rw [key true _ (by decide)]
    exact cmp1 _ _ (by simpa using h1)
  · unfold leF Format.order top
    rw [key false _ (by decide)]
    exact cmp2 _ _ (by simpa using h2)
theorem near_whole {n : Int} (h1 : -1099511627776 ≤ n) (h2 : n ≤ 1099511627776) : wholeF (nearF n) = (n, true) := by
  have hb : n.natAbs < 9007199254740992 := by omega
  obtain ⟨g1, g2⟩ := near_in h1 h2
  obtain ⟨s, m, e, hd, hT⟩ := between g1 g2
  have hT' : cutF m e < 9007199254740992 := by omega
  have hi := near_int hb
  have he : eqF (nearF n) (truncF (nearF n)) = true := by
    rw [← eqF_near hd hT', hi, eq_near_near hb hb]; simp
  have hz : ¬ (eqF (nearF n) zeroF = true ∧ sgnF (nearF n) = true) := by
    rintro ⟨z1, z2⟩
    rw [zero_iff hd hT' he, hi] at z1
    have : n = 0 := of_decide_eq_true z1
    subst this
    rw [near_zero] at z2
    exact absurd z2 (by decide)
  unfold wholeF
  rw [if_pos ⟨g1, g2, he, hz⟩, hi]
end Go.Proofs.YtkcahnefekkfaaaAbs.Flt

namespace Go.Proofs.YtkcahnefekkfaaaAbs
open Go Go.RowKit Go.Proofs.YtkcahnefekkfaaaAbs.Flt
variable [Base]
section
variable {P : Program} {t : TypeId} {xo yo : Operand} {a b c d : Nat}
theorem fb_geq : aBin P .geq t xo yo (.float .f64 a) (.float .f64 b) = some (.bool (geF a b)) := aBin_pure rfl rfl rfl (by simp [binOp, Op.floatCmp, Sem.pureRun_pure, geF]; rfl) rfl
theorem fb_leq : aBin P .leq t xo yo (.float .f64 a) (.float .f64 b) = some (.bool (leF a b)) := aBin_pure rfl rfl rfl (by simp [binOp, Op.floatCmp, Sem.pureRun_pure, leF]; rfl) rfl
theorem fb_lss : aBin P .lss t xo yo (.float .f64 a) (.float .f64 b) = some (.bool (ltF a b)) := aBin_pure rfl rfl rfl (by simp [binOp, Op.floatCmp, Sem.pureRun_pure, ltF]; rfl) rfl
theorem fb_eql : aBin P .eql t xo yo (.float .f64 a) (.float .f64 b) = some (.bool (eqF a b)) := aBin_pure rfl rfl rfl (by simp [binOp, Op.floatCmp, Sem.pureRun_pure, eqF]; rfl) rfl
theorem fb_neq : aBin P .neq t xo yo (.float .f64 a) (.float .f64 b) = some (.bool (!eqF a b)) := aBin_pure rfl rfl rfl (by simp [binOp, Op.floatCmp, Sem.pureRun_pure, eqF, bne]; rfl) rfl
theorem fb_quo {r : Nat} (h : D.div a b = some r) : aBin P .quo t xo yo (.float .f64 a) (.float .f64 b) = some (.float .f64 r) := by
  have h' : FloatKind.f64.format.div a b = some r := h
  exact aBin_pure rfl rfl rfl (by simp [binOp, Op.floatArith, h', Sem.pureRun_pure]) rfl
theorem cb_eql : aBin P .eql t xo yo (.complex .f64 a b) (.complex .f64 c d) = some (.bool (eqF a c && eqF b d)) := aBin_pure rfl rfl rfl (by simp [binOp, Op.complexOp, Op.Complex.cmp, Op.floatCmp, Sem.pureRun_pure, eqF]; rfl) rfl
theorem conv_to_f64 {src d : TypeId} {k : IntKind} {a : Int} (h1 : P.underlying src = some (.int k)) (h2 : P.underlying d = some (.float .f64)) : aConv P src d (.int k a) = some (.float .f64 (nearF a)) := by
  simp only [aConv, flatV, if_true, pureFlat, convert, pureRun_underlying h1, pureRun_underlying h2]
  simp [Conv.intToFloat, Sem.pureRun_pure, pureV, flatV]
  rfl
theorem conv_of_f64 {src d : TypeId} {x : Nat} {s : Bool} {m : Nat} {e : Int} (h1 : P.underlying src = some (.float .f64)) (h2 : P.underlying d = some (.int .i64)) (hd : D.read x = .number s m e) (hr : -9223372036854775808 ≤ intF x ∧ intF x ≤ 9223372036854775807) : aConv P src d (.float .f64 x) = some (.int .i64 (intF x)) := by
  have ht : (FloatKind.f64.decode x).toInt .zero = some (intF x) := by
    show (D.read x).toInt .zero = _
    rw [intF_eq hd]
    unfold Ieee.Datum.toInt
    rw [hd, integral_eq]
    exact congrArg some (signed0 s _)
  simp only [aConv, flatV, if_true, pureFlat, convert, pureRun_underlying h1, pureRun_underlying h2]
  have hm : IntKind.i64.min ≤ intF x ∧ intF x ≤ IntKind.i64.max := hr
  simp [Conv.floatToInt, ht, hm, hr.2, Sem.pureRun_pure, pureV, flatV]
noncomputable def realO (P : Program) (v : Value) : Option (Value × Eff) := if flatV v = true then (pureFlat P (Builtin.real_ #[] 0 #[v])).map fun v => (v, Eff.none) else none
noncomputable def imagO (P : Program) (v : Value) : Option (Value × Eff) := if flatV v = true then (pureFlat P (Builtin.imag_ #[] 0 #[v])).map fun v => (v, Eff.none) else none
noncomputable def complexO (P : Program) (v w : Value) : Option (Value × Eff) := if flatV v = true ∧ flatV w = true then (pureFlat P (Builtin.complex_ #[] 0 #[v, w])).map fun v => (v, Eff.none) else none
noncomputable def maxO (P : Program) (v w : Value) : Option (Value × Eff) := if flatV v = true ∧ flatV w = true then (pureFlat P (Builtin.max_ #[] 0 #[v, w])).map fun v => (v, Eff.none) else none
theorem realO_c (k : FloatKind) (a b : Nat) : realO P (.complex k a b) = some (.float k a, .none) := rfl
theorem imagO_c (k : FloatKind) (a b : Nat) : imagO P (.complex k a b) = some (.float k b, .none) := rfl
theorem complexO_f (a b : Nat) : complexO P (.float .f64 a) (.float .f64 b) = some (.complex .f64 a b, .none) := rfl
section
variable (g : AMem) (n : Nat) (ty : TypeId) (ev : Operand → Value) (x y : Operand) (ts : Array TypeId)
theorem aBuiltin_real : aBuiltin P g n ty ev .real #[x] ts = realO P (ev x) := by
  unfold realO
  simp only [aBuiltin, List.all_cons, List.all_nil, Bool.and_true, List.map_toArray, List.map_cons, List.map_nil]
  rfl
theorem aBuiltin_imag : aBuiltin P g n ty ev .imag #[x] ts = imagO P (ev x) := by
  unfold imagO
  simp only [aBuiltin, List.all_cons, List.all_nil, Bool.and_true, List.map_toArray, List.map_cons, List.map_nil]
  rfl
theorem aBuiltin_complex : aBuiltin P g n ty ev .complex #[x, y] ts = complexO P (ev x) (ev y) := by
  unfold complexO
  simp only [aBuiltin, List.all_cons, List.all_nil, Bool.and_true, Bool.and_eq_true, List.map_toArray, List.map_cons, List.map_nil]
  rfl
end
end
theorem rulesF : (∀ {P : Program} {t : TypeId} {xo yo : Operand} {a b : Nat}, aBin P .geq t xo yo (.float .f64 a) (.float .f64 b) = some (.bool (geF a b))) ∧
    (∀ {P : Program} {t : TypeId} {xo yo : Operand} {a b : Nat}, aBin P .leq t xo yo (.float .f64 a) (.float .f64 b) = some (.bool (leF a b))) ∧
    (∀ {P : Program} {t : TypeId} {xo yo : Operand} {a b : Nat}, aBin P .lss t xo yo (.float .f64 a) (.float .f64 b) = some (.bool (ltF a b))) ∧
    (∀ {P : Program} {t : TypeId} {xo yo : Operand} {a b : Nat}, aBin P .eql t xo yo (.float .f64 a) (.float .f64 b) = some (.bool (eqF a b))) ∧
    (∀ {P : Program} {t : TypeId} {xo yo : Operand} {a b : Nat}, aBin P .neq t xo yo (.float .f64 a) (.float .f64 b) = some (.bool (!eqF a b))) ∧
    (∀ {P : Program} {t : TypeId} {xo yo : Operand} {a b c d : Nat}, aBin P .eql t xo yo (.complex .f64 a b) (.complex .f64 c d) = some (.bool (eqF a c && eqF b d))) ∧
    (∀ {P : Program} (k : FloatKind) (a b : Nat), realO P (.complex k a b) = some (.float k a, .none)) ∧
    (∀ {P : Program} (k : FloatKind) (a b : Nat), imagO P (.complex k a b) = some (.float k b, .none)) ∧
    (∀ {P : Program} (a b : Nat), complexO P (.float .f64 a) (.float .f64 b) = some (.complex .f64 a b, .none)) ∧
    (∀ {P : Program} (g : AMem) (n : Nat) (ty : TypeId) (ev : Operand → Value) (x : Operand) (ts : Array TypeId), aBuiltin P g n ty ev .real #[x] ts = realO P (ev x)) ∧
    (∀ {P : Program} (g : AMem) (n : Nat) (ty : TypeId) (ev : Operand → Value) (x : Operand) (ts : Array TypeId), aBuiltin P g n ty ev .imag #[x] ts = imagO P (ev x)) ∧
    (∀ {P : Program} (g : AMem) (n : Nat) (ty : TypeId) (ev : Operand → Value) (x y : Operand) (ts : Array TypeId), aBuiltin P g n ty ev .complex #[x, y] ts = complexO P (ev x) (ev y)) :=
  ⟨@fb_geq _, @fb_leq _, @fb_lss _, @fb_eql _, @fb_neq _, @cb_eql _, @realO_c _, @imagO_c _, @complexO_f _, @aBuiltin_real _, @aBuiltin_imag _, @aBuiltin_complex _⟩
end Go.Proofs.YtkcahnefekkfaaaAbs

namespace Go.Proofs.YtkcahnefekkfaaaAbs
open Go Go.RowKit
variable [Base]
section
variable {P : Program} {f : FuncId} {args : List Value} {v : Value} {g : AMem} {n : Nat}
/-- Nothing that was there has turned; the value holds no address. -/
theorem trans_below {ρ : Nat → Option Nat} {w w' : World} (hrep : GRep ρ g n w) (hv : flatV v = true) (hb : Below w.heap.size w w') : Trans (fun _ => False) ρ g n w v g n v w' ρ := by
  have hsz : ∀ b, szOf w b ≤ szOf w' b := fun b => by
    unfold szOf
    by_cases h : b < w.heap.size
    · rw [hb.block b h]; exact Nat.le_refl _
    · rw [Array.getElem?_eq_none (by omega)]; exact Nat.zero_le _
  have hfr : Frame0 (fun _ => False) w w' := ⟨hb.os, hb.tape, hb.output, hb.size, fun b h _ => hb.block b h, hsz⟩
  refine ⟨flatV_rel hv, ⟨fun i o hi => ?_, hrep.inj, hrep.dom, fun i b hi => Nat.lt_of_lt_of_le (hrep.old i b hi) hb.size⟩, Nat.le_refl _, fun _ _ => rfl, hfr.mono fun b _ h => h.elim, fun j b hj hb => ?_, fun _ _ h => h⟩
  · obtain ⟨b, co, h1, h2, h3⟩ := hrep.obj i o hi
    have hlt := (Array.getElem?_eq_some_iff.1 h2).1
    exact ⟨b, co, h1, by rw [hb.block b hlt]; exact h2, h3.mono (fun _ _ h => h) hsz⟩
  · rw [hrep.dom j hj] at hb; cases hb
theorem fnC_of_below (hx : extFn P f = none) (hv : flatV v = true) (h : ∀ ρ w (cargs : Array Value), BaseW w → GRep ρ g n w → VRs ρ (szOf w) args cargs.toList → Calls P f cargs w fun e w' => e = .returned v ∧ Below w.heap.size w w') : FnC P f args g n (fun _ => False) v g n := by
  intro ρ w cargs hbase hrep hargs
  refine CallsX.of hx ((h ρ w cargs hbase.base hrep hargs).mono fun e w' he => ?_)
  obtain ⟨rfl, hb⟩ := he
  exact ⟨v, ρ, rfl, trans_below hrep hv hb⟩
/-- The same, of a value of which part is not known. -/
theorem fnC_of_belowR (hx : extFn P f = none) (h : ∀ ρ w (cargs : Array Value), BaseW w → GRep ρ g n w → VRs ρ (szOf w) args cargs.toList → Calls P f cargs w fun e w' => ∃ cv, e = .returned cv ∧ (∀ sz, VRel ρ sz v cv) ∧ Below w.heap.size w w') : FnC P f args g n (fun _ => False) v g n := by
  intro ρ w cargs hbase hrep hargs
  refine CallsX.of hx ((h ρ w cargs hbase.base hrep hargs).mono fun e w' he => ?_)
  obtain ⟨cv, rfl, hv, hb⟩ := he
  have ht := trans_below (v := .nilIface) hrep rfl hb
  exact ⟨cv, ρ, rfl, hv _, ht.rep, ht.le, ht.ext, ht.frame, ht.fresh, ht.keep⟩
/-- A package variable's cell is as in the base. -/
theorem cell_base {w : World} (h : BaseW w) {k : Nat} (hk : k < Base.K) : w.cell? ⟨k, 0, none⟩ = Base.W.cell? ⟨k, 0, none⟩ := by
  unfold World.cell?
  rw [h.1 k hk]
theorem var_base {w : World} (h : BaseW w) {name : String} {k : Nat} (hn : P.globalNamed name = some k) (hk : k < Base.K) : w.var? P name = Base.W.var? P name := by
  unfold World.var?
  rw [hn]
  simp only [Option.bind_some]
  rw [h.1 k hk]
end
end Go.Proofs.YtkcahnefekkfaaaAbs

namespace Go.Proofs.YtkcahnefekkfaaaAbs
open Go Go.RowKit
variable [Base]
section
variable {P : Program}
theorem bin_eql_slice {t el : TypeId} {xo yo : Operand} {b : Addr} {m e : Nat} (hu : P.underlying t = some (.slice el)) : aBin P .eql t xo yo (.slice (some b) m e) (.slice none 0 0) = some (.bool false) := by
  unfold aBin
  rw [if_neg (by simp [pureV, flatV])]
  simp [aNil, hu]
theorem bin_eql_nils {t el : TypeId} {xo yo : Operand} (hu : P.underlying t = some (.slice el)) : aBin P .eql t xo yo (.slice none 0 0) (.slice none 0 0) = some (.bool true) := by
  have he : Sem.pureRun P (Op.equal t (.slice none 0 0) (.slice none 0 0)) = some true := by
    rw [equal_unf]
    unfold Op.equalIn
    simp [Sem.pureRun_bind, pure_underlying hu, Sem.pureRun_pure]
  have hg : Sem.pureRun P (eqGuard .eql t xo yo (.slice none 0 0) (.slice none 0 0)) = some () := rfl
  simp only [aBin, show pureV (.slice none 0 0) = true from rfl, and_self, if_true, pureFlat, Sem.pureRun_bind, hg, Option.bind_some, binOp, he, Sem.pureRun_pure]
  rfl
theorem vrs_one {ρ : Nat → Option Nat} {sz : Nat → Nat} {v : Value} {cargs : Array Value} (h : VRs ρ sz [v] cargs.toList) : ∃ cv, cargs = #[cv] ∧ VRel ρ sz v cv := by
  obtain ⟨l⟩ := cargs
  match l, h with
  | [], h => exact absurd h.len (by simp)
  | [a], h => exact ⟨a, rfl, h.at_ 0 (by simp) (by simp)⟩
  | a :: b :: r, h => exact absurd h.len (by simp)
/-- What the shelf says of slices.Sort, in this layer's words. -/
theorem fnC_of_sort {f : FuncId} {g : AMem} {n b m : Nat} {zs zs' : List Int} (hx : extFn P f = none) (hg : g b = some (.row (zs.map (Value.int .i64)) true)) (hm : m = zs.length) (hl : zs'.length = zs.length)
    (h : ∀ blk cap (w : World), Go.Sort.Holds (Value.int .i64) w blk 0 zs.toArray → blk < w.heap.size → Calls P f #[.slice (some ⟨blk, 0, none⟩) zs.length cap] w fun e w' =>
      e = .returned (.tuple #[]) ∧ ∃ k os, w' = Go.Sort.grow (Go.Sort.putRow (Value.int .i64) (Go.Sort.ahead w k) blk 0 zs'.toArray) os) :
    FnC P f [.slice (some ⟨b, 0, none⟩) m 1] g n (fun i => i = b) (.tuple #[]) (gset g b (some (.row (zs'.map (Value.int .i64)) true))) n := by
  intro ρ w cargs hbase hrep hargs
  obtain ⟨cv, rfl, hc⟩ := vrs_one hargs
  cases hc with
  | sliceLost _ _ _ _ hs => cases hs
  | sliceFull _ _ _ hs => cases hs
  | slice _ _ _ _ b' c hb hn hcap =>
    subst hm
    obtain ⟨b1, co, q1, q2, q3⟩ := hrep.obj b _ hg
    rw [hb] at q1; cases q1
    cases q3 with
    | row _ _ cc t fr hrw hll hvr =>
      have hfr := hrw rfl
      subst hfr
      rw [List.length_map] at hll hvr
      have hlt : b' < w.heap.size := hrep.old _ _ hb
      have hcell : ∀ j (hj : j < zs.length), cc[j]? = some (.int .i64 zs[j]) := fun j hj => by
        have h1 := hvr.at_ j (by simpa using hj) (by simp; omega)
        have key : ∀ (x y : Value) (z : Int), y = .int .i64 z → VRel ρ (szOf w) y x → x = .int .i64 z := fun x y z e h => by subst e; cases h; rfl
        have h2 := key _ _ zs[j] (List.getElem_map _) h1
        rw [List.getElem_take, Array.getElem_toList] at h2
        rw [Array.getElem?_eq_getElem (by omega), h2]
      have hH : Go.Sort.Holds (Value.int .i64) w b' 0 zs.toArray := fun j hj => by
        have hj : j < zs.length := by simpa using hj
        refine ⟨?_, ?_⟩
        · unfold World.cell?
          rw [q2]
          simp only [Option.isSome_none, Nat.zero_add]
          rw [if_neg (by simp), hcell j hj, getElem!_pos zs.toArray j (by simpa using hj)]
          simp
        · unfold World.frozen?
          rw [q2]
          simp
      refine CallsX.of hx ((h b' c w hH hlt).mono fun e w' he => ?_)
      obtain ⟨rfl, k, os, rfl⟩ := he
      have hat : ∀ i, i < w.heap.size → i ≠ b' → (Go.Sort.grow (Go.Sort.putRow (Value.int .i64) (Go.Sort.ahead w k) b' 0 zs'.toArray) os).heap[i]? = w.heap[i]? := fun i hi hne => by
        simp only [Go.Sort.grow, Go.Sort.putRow, Go.Sort.mapBlock, Go.Sort.ahead]
        rw [Array.getElem?_append_left (by simpa using hi), Array.getElem?_modify, if_neg (Ne.symm hne)]
      have hb'' : (Go.Sort.grow (Go.Sort.putRow (Value.int .i64) (Go.Sort.ahead w k) b' 0 zs'.toArray) os).heap[b']? = some (.cells (Go.Sort.putCells (Value.int .i64) 0 zs'.toArray cc) t (0, 0)) := by
        simp only [Go.Sort.grow, Go.Sort.putRow, Go.Sort.mapBlock, Go.Sort.ahead]
        rw [Array.getElem?_append_left (by simpa using hlt), Array.getElem?_modify, if_pos rfl, q2]
        rfl
      have hsz : ∀ i, szOf w i ≤ szOf (Go.Sort.grow (Go.Sort.putRow (Value.int .i64) (Go.Sort.ahead w k) b' 0 zs'.toArray) os) i := fun i => by
        by_cases hi : i < w.heap.size
        · by_cases e : i = b'
          · subst e
            unfold szOf
            rw [hb'', q2]
            simp [Go.Sort.putCells]
          · unfold szOf
            rw [hat i hi e]
            exact Nat.le_refl _
        · unfold szOf
          rw [Array.getElem?_eq_none (by omega)]
          exact Nat.zero_le _
      have hsize : w.heap.size ≤ (Go.Sort.grow (Go.Sort.putRow (Value.int .i64) (Go.Sort.ahead w k) b' 0 zs'.toArray) os).heap.size := by
        simp [Go.Sort.grow, Go.Sort.putRow, Go.Sort.mapBlock, Go.Sort.ahead]
      refine ⟨.tuple #[], ρ, rfl, pureV_rel rfl, ⟨fun i o hi => ?_, fun i j bb hi hj e1 e2 => ?_, hrep.dom, fun i bb hi => Nat.lt_of_lt_of_le (hrep.old i bb hi) hsize⟩, Nat.le_refl _, fun _ _ => rfl, ⟨rfl, rfl, rfl, hsize, fun bb hbb ht => ?_, hsz⟩, fun j bb hj hbb => ?_, fun i hi hgi => ?_⟩
      · unfold gset at hi
        split at hi
        · rename_i e
          subst e
          cases hi
          refine ⟨b', _, hb, hb'', .row _ _ _ _ _ (fun _ => rfl) (by simp [Go.Sort.putCells]; omega) ⟨by simp [Go.Sort.putCells]; omega, fun j h1 h2 => ?_⟩⟩
          have hj : j < zs'.length := by simpa using h1
          have hv : ((Go.Sort.putCells (Value.int .i64) 0 zs'.toArray cc).toList.take (zs'.map (Value.int .i64)).length)[j] = .int .i64 zs'[j] := by
            rw [List.getElem_take, Array.getElem_toList]
            simp only [Go.Sort.putCells, Array.getElem_mapIdx]
            rw [if_pos ⟨Nat.zero_le _, by simpa using hj⟩, Nat.sub_zero, getElem!_pos zs'.toArray j (by simpa using hj)]
            simp
          rw [hv, List.getElem_map]
          exact .int _ _
        · rename_i e
          obtain ⟨bb, cob, p1, p2, p3⟩ := hrep.obj i o hi
          have hne : bb ≠ b' := fun hc => e (hrep.inj i b b' (by rw [hi]; simp) (by rw [hg]; simp) (hc ▸ p1) hb)
          exact ⟨bb, cob, p1, by rw [hat bb (hrep.old _ _ p1) hne]; exact p2, p3.mono (fun _ _ h => h) hsz⟩
      · have nz : ∀ x, gset g b (some (.row (zs'.map (Value.int .i64)) true)) x ≠ none → g x ≠ none := fun x hx => by
          unfold gset at hx
          split at hx
          · rename_i e; rw [e, hg]; simp
          · exact hx
        exact hrep.inj i j bb (nz i hi) (nz j hj) e1 e2
      · by_cases e : bb = b'
        · subst e
          refine absurd ⟨b, ?_, rfl, hb⟩ ht
          refine Classical.byContradiction fun hnb => ?_
          rw [hrep.dom b (by omega)] at hb; cases hb
        · exact hat bb hbb e
      · rw [hrep.dom j hj] at hbb; cases hbb
      · unfold gset
        rw [if_neg (fun e => by rw [e, hg] at hgi; cases hgi)]
        exact hgi
end
end Go.Proofs.YtkcahnefekkfaaaAbs

namespace Go.Proofs.YtkcahnefekkfaaaAbs
open Go Go.RowKit
variable [Base]
section
variable {P : Program}
/-- What the shelf says of slices.Compact, in this layer's words. -/
theorem fnC_of_compact {f : FuncId} {g : AMem} {n b m m2 : Nat} {zs zs' : List Int} (hx : extFn P f = none) (hg : g b = some (.row (zs.map (Value.int .i64)) true)) (hm : m = zs.length) (hl : zs'.length = zs.length) (hm2 : m2 ≤ zs.length)
    (h : ∀ blk cap (w : World), Go.Sort.Holds (Value.int .i64) w blk 0 zs.toArray → blk < w.heap.size → zs.length ≤ cap → Calls P f #[.slice (some ⟨blk, 0, none⟩) zs.length cap] w fun e w' =>
      e = .returned (.slice (some ⟨blk, 0, none⟩) m2 cap) ∧ ∃ k os, w' = Go.Sort.grow (Go.Sort.putRow (Value.int .i64) (Go.Sort.ahead w k) blk 0 zs'.toArray) os) :
    FnC P f [.slice (some ⟨b, 0, none⟩) m 1] g n (fun i => i = b) (.slice (some ⟨b, 0, none⟩) m2 1) (gset g b (some (.row (zs'.map (Value.int .i64)) true))) n := by
  intro ρ w cargs hbase hrep hargs
  obtain ⟨cv, rfl, hc⟩ := vrs_one hargs
  cases hc with
  | sliceLost _ _ _ _ hs => cases hs
  | sliceFull _ _ _ hs => cases hs
  | slice _ _ _ _ b' c hb hn hcap =>
    subst hm
    obtain ⟨b1, co, q1, q2, q3⟩ := hrep.obj b _ hg
    rw [hb] at q1; cases q1
    cases q3 with
    | row _ _ cc t fr hrw hll hvr =>
      have hfr := hrw rfl
      subst hfr
      rw [List.length_map] at hll hvr
      have hlt : b' < w.heap.size := hrep.old _ _ hb
      have hcell : ∀ j (hj : j < zs.length), cc[j]? = some (.int .i64 zs[j]) := fun j hj => by
        have h1 := hvr.at_ j (by simpa using hj) (by simp; omega)
        have key : ∀ (x y : Value) (z : Int), y = .int .i64 z → VRel ρ (szOf w) y x → x = .int .i64 z := fun x y z e h => by subst e; cases h; rfl
        have h2 := key _ _ zs[j] (List.getElem_map _) h1
        rw [List.getElem_take, Array.getElem_toList] at h2
        rw [Array.getElem?_eq_getElem (by omega), h2]
      have hH : Go.Sort.Holds (Value.int .i64) w b' 0 zs.toArray := fun j hj => by
        have hj : j < zs.length := by simpa using hj
        refine ⟨?_, ?_⟩
        · unfold World.cell?
          rw [q2]
          simp only [Option.isSome_none, Nat.zero_add]
          rw [if_neg (by simp), hcell j hj, getElem!_pos zs.toArray j (by simpa using hj)]
          simp
        · unfold World.frozen?
          rw [q2]
          simp
      refine CallsX.of hx ((h b' c w hH hlt hn).mono fun e w' he => ?_)
      obtain ⟨rfl, k, os, rfl⟩ := he
      have hat : ∀ i, i < w.heap.size → i ≠ b' → (Go.Sort.grow (Go.Sort.putRow (Value.int .i64) (Go.Sort.ahead w k) b' 0 zs'.toArray) os).heap[i]? = w.heap[i]? := fun i hi hne => by
        simp only [Go.Sort.grow, Go.Sort.putRow, Go.Sort.mapBlock, Go.Sort.ahead]
        rw [Array.getElem?_append_left (by simpa using hi), Array.getElem?_modify, if_neg (Ne.symm hne)]
      have hb'' : (Go.Sort.grow (Go.Sort.putRow (Value.int .i64) (Go.Sort.ahead w k) b' 0 zs'.toArray) os).heap[b']? = some (.cells (Go.Sort.putCells (Value.int .i64) 0 zs'.toArray cc) t (0, 0)) := by
        simp only [Go.Sort.grow, Go.Sort.putRow, Go.Sort.mapBlock, Go.Sort.ahead]
        rw [Array.getElem?_append_left (by simpa using hlt), Array.getElem?_modify, if_pos rfl, q2]
        rfl
      have hsz : ∀ i, szOf w i ≤ szOf (Go.Sort.grow (Go.Sort.putRow (Value.int .i64) (Go.Sort.ahead w k) b' 0 zs'.toArray) os) i := fun i => by
        by_cases hi : i < w.heap.size
        · by_cases e : i = b'
          · subst e
            unfold szOf
            rw [hb'', q2]
            simp [Go.Sort.putCells]
          · unfold szOf
            rw [hat i hi e]
            exact Nat.le_refl _
        · unfold szOf
          rw [Array.getElem?_eq_none (by omega)]
          exact Nat.zero_le _
      have hsize : w.heap.size ≤ (Go.Sort.grow (Go.Sort.putRow (Value.int .i64) (Go.Sort.ahead w k) b' 0 zs'.toArray) os).heap.size := by
        simp [Go.Sort.grow, Go.Sort.putRow, Go.Sort.mapBlock, Go.Sort.ahead]
      refine ⟨.slice (some ⟨b', 0, none⟩) m2 c, ρ, rfl, .slice _ _ _ _ b' c hb (Nat.le_trans hm2 hn) (Nat.le_trans hcap (hsz b')), ⟨fun i o hi => ?_, fun i j bb hi hj e1 e2 => ?_, hrep.dom, fun i bb hi => Nat.lt_of_lt_of_le (hrep.old i bb hi) hsize⟩, Nat.le_refl _, fun _ _ => rfl, ⟨rfl, rfl, rfl, hsize, fun bb hbb ht => ?_, hsz⟩, fun j bb hj hbb => ?_, fun i hi hgi => ?_⟩
      · unfold gset at hi
        split at hi
        · rename_i e
          subst e
          cases hi
          refine ⟨b', _, hb, hb'', .row _ _ _ _ _ (fun _ => rfl) (by simp [Go.Sort.putCells]; omega) ⟨by simp [Go.Sort.putCells]; omega, fun j h1 h2 => ?_⟩⟩
          have hj : j < zs'.length := by simpa using h1
          have hv : ((Go.Sort.putCells (Value.int .i64) 0 zs'.toArray cc).toList.take (zs'.map (Value.int .i64)).length)[j] = .int .i64 zs'[j] := by
            rw [List.getElem_take, Array.getElem_toList]
            simp only [Go.Sort.putCells, Array.getElem_mapIdx]
            rw [if_pos ⟨Nat.zero_le _, by simpa using hj⟩, Nat.sub_zero, getElem!_pos zs'.toArray j (by simpa using hj)]
            simp
          rw [hv, List.getElem_map]
          exact .int _ _
        · rename_i e
          obtain ⟨bb, cob, p1, p2, p3⟩ := hrep.obj i o hi
          have hne : bb ≠ b' := fun hc => e (hrep.inj i b b' (by rw [hi]; simp) (by rw [hg]; simp) (hc ▸ p1) hb)
          exact ⟨bb, cob, p1, by rw [hat bb (hrep.old _ _ p1) hne]; exact p2, p3.mono (fun _ _ h => h) hsz⟩
      · have nz : ∀ x, gset g b (some (.row (zs'.map (Value.int .i64)) true)) x ≠ none → g x ≠ none := fun x hx => by
          unfold gset at hx
          split at hx
          · rename_i e; rw [e, hg]; simp
          · exact hx
        exact hrep.inj i j bb (nz i hi) (nz j hj) e1 e2
      · by_cases e : bb = b'
        · subst e
          refine absurd ⟨b, ?_, rfl, hb⟩ ht
          refine Classical.byContradiction fun hnb => ?_
          rw [hrep.dom b (by omega)] at hb; cases hb
        · exact hat bb hbb e
      · rw [hrep.dom j hj] at hbb; cases hbb
      · unfold gset
        rw [if_neg (fun e => by rw [e, hg] at hgi; cases hgi)]
        exact hgi
end
end Go.Proofs.YtkcahnefekkfaaaAbs
