/- Contracts of functions: what each one returns, and what it leaves. No statement is proved here. -/
import Derived.Test.YtcndbfekcmalmaaF6
set_option linter.unusedVariables false
set_option linter.unusedSimpArgs false
namespace Go.Proofs.Ytcndbfekcmalmaa.F6
open Go Go.Proofs Go.Proofs.YtcndbfekcmalmaaAbs
set_option maxRecDepth 100000
abbrev rdW (g : AMem) (v : Value) (ws : List (BitVec 64)) : Prop := Rd g 1 (fun w => [U w]) v ws
abbrev rdI (g : AMem) (v : Value) (xs : List Int) : Prop := Rd g 1 (fun x => [.int .i64 x]) v xs
end Go.Proofs.Ytcndbfekcmalmaa.F6

namespace Go.Proofs.Ytcndbfekcmalmaa.F6
open Go Go.Proofs Go.Proofs.YtcndbfekcmalmaaAbs
theorem LKk {k : IntKind} {v : Value} (h : (LK.int k).is v) : ∃ x : Int, v = .int k x ∧ k.min ≤ x ∧ x ≤ k.max := by
  obtain ⟨x, rfl, hx⟩ := h
  simp only [Lit.wf, Bool.and_eq_true, decide_eq_true_eq] at hx
  exact ⟨x, rfl, hx.1, hx.2⟩
theorem LKf {v : Value} (h : (LK.float .f64).is v) : ∃ x : Nat, v = .float .f64 x ∧ x < 18446744073709551616 := by
  obtain ⟨x, rfl, hx⟩ := h
  simp only [Lit.wf, decide_eq_true_eq] at hx
  exact ⟨x, rfl, hx⟩
theorem okWide_f64 {P : Program} {W : World} {r : Reach} {base : Nat} {t : TypeId} {v : Value} (ht : P.underlying t = some (.float .f64)) (h : Value.okWide P W r base t v) : ∃ n, v = .float .f64 n := by
  simp only [Value.okWide, ht, Cell.okWide] at h
  cases v <;> simp_all [Cell.ok]
theorem decWo {H : Type} {enc : TypeId × Value → H} {W : World} : ∀ c, Cells enc Try.prog W [.flat (.int .u64)] c → ∃ x : BitVec 64, [U x] = c ∧ True := fun c h => by
  obtain ⟨a, rfl, ha⟩ := h.flats1
  obtain ⟨x, rfl⟩ := LK.u64 ha
  exact ⟨x, rfl, trivial⟩
end Go.Proofs.Ytcndbfekcmalmaa.F6

namespace Go.Proofs.Ytcndbfekcmalmaa.F6
open Go Go.Proofs Go.Proofs.YtcndbfekcmalmaaAbs
set_option maxRecDepth 100000
/-- A slice that is read, as a row. -/
theorem rd_all {α : Type} {enc : α → List Value} {e : Nat} {g : AMem} {v : Value} {xs : List α} (h : Rd g e enc v xs) (h0 : 0 < xs.length) : ∃ b o cs r, v = .slice (some ⟨b, o, none⟩) xs.length e ∧ g b = some (.row cs r) ∧ o + xs.length * e ≤ cs.length ∧ xs.flatMap enc = (cs.drop o).take (xs.length * e) := aRead_row h h0
/-- Its elements. -/
theorem rd_elems {α : Type} {f : α → Value} {g : AMem} {v : Value} {xs : List α} (h : Rd g 1 (fun x => [f x]) v xs) (h0 : 0 < xs.length) :
    ∃ b o, v = .slice (some ⟨b, o, none⟩) xs.length 1 ∧ g b ≠ none ∧ ∀ (i : Nat) (hi : i < xs.length) (g2 : AMem), Ext g g2 → ∀ (P : Program) (t : TypeId), tagg P t = some false → aLoad P g2 t (.pointer (some ⟨b, o + i, none⟩)) = some (f xs[i]) := by
  obtain ⟨b, o, h1, h2, _⟩ := h.one h0
  refine ⟨b, o, h1, h2, fun i hi g2 hx P t ht => ?_⟩
  obtain ⟨b', o', h3, _, h4⟩ := h.one hi
  rw [h1] at h3
  simp only [Value.slice.injEq, Option.some.injEq, Addr.mk.injEq] at h3
  obtain ⟨⟨rfl, rfl, _⟩, _⟩ := h3
  exact h4 g2 hx P t ht
theorem rd_nths {α : Type} {f : α → Value} {g : AMem} {v : Value} {xs : List α} (h : Rd g 1 (fun x => [f x]) v xs) (h0 : 0 < xs.length) :
    ∃ b o cs r, v = .slice (some ⟨b, o, none⟩) xs.length 1 ∧ g b = some (.row cs r) ∧ ∀ (i : Nat) (hi : i < xs.length), nth cs (o + i) = some (f xs[i]) := by
  obtain ⟨b, o, cs, r, h1, h2, h3, h4⟩ := rd_all h h0
  refine ⟨b, o, cs, r, h1, h2, fun i hi => ?_⟩
  rw [flatMap_one, Nat.mul_one] at h4
  have : (xs.map f)[i]? = some (f xs[i]) := by simp [hi]
  rw [h4, List.getElem?_take, if_pos hi, List.getElem?_drop] at this
  rw [← nth_eq]; exact this
/-- A part of it. -/
theorem rd_part {α : Type} {enc : α → List Value} {e : Nat} (he : ∀ x, (enc x).length = e) {g : AMem} {b o n : Nat} {xs : List α} (h : Rd g e enc (.slice (some ⟨b, o, none⟩) n e) xs) (k m : Nat) (hm : k + m ≤ xs.length) : Rd g e enc (.slice (some ⟨b, o + k * e, none⟩) m e) ((xs.drop k).take m) := by
  have hn : n = xs.length := by
    obtain ⟨a, e', h1⟩ := h.form
    simp only [Value.slice.injEq] at h1
    exact h1.2.1
  have hl : ((xs.drop k).take m).length = m := by rw [List.length_take, List.length_drop]; omega
  by_cases h0 : m = 0
  · subst h0
    simp [Rd, aRead]
  obtain ⟨b', o', cs, r, h1, h2, h3, h4⟩ := rd_all h (by omega)
  simp only [Value.slice.injEq, Option.some.injEq, Addr.mk.injEq] at h1
  obtain ⟨⟨rfl, rfl, _⟩, _⟩ := h1
  have hke : k * e + m * e ≤ xs.length * e := by rw [← Nat.add_mul]; exact Nat.mul_le_mul_right _ hm
  refine Rd.of_row he h2 (by rw [hl]; omega) ?_ hl.symm
  rw [hl]
  have e1 : xs.flatMap enc = (xs.take k).flatMap enc ++ (((xs.drop k).take m).flatMap enc ++ ((xs.drop k).drop m).flatMap enc) := by
    rw [← List.flatMap_append, List.take_append_drop, ← List.flatMap_append, List.take_append_drop]
  have l1 : ((xs.take k).flatMap enc).length = k * e := by rw [flat_length he, List.length_take, Nat.min_eq_left (by omega)]
  have l2 : (((xs.drop k).take m).flatMap enc).length = m * e := by rw [flat_length he, hl]
  have e2 : ((xs.flatMap enc).drop (k * e)).take (m * e) = ((xs.drop k).take m).flatMap enc := by
    rw [e1, ← l1, List.drop_left, ← l2, List.take_left]
  rw [← e2, h4, List.drop_take, List.drop_drop, List.take_take, Nat.min_eq_left (by omega)]
theorem rd_read {α : Type} {enc : α → List Value} {e : Nat} {g : AMem} {v : Value} {xs : List α} (h : Rd g e enc v xs) : aRead g e v = some (xs.length, xs.flatMap enc) := h
set_option maxHeartbeats 2000000
/-- slices.Equal of words. -/
theorem slices_EqualW (va vb : Value) (xs ys : List (BitVec 64)) (g : AMem) (n : Nat) (hl : xs.length < 4611686018427387904) (hl' : ys.length < 4611686018427387904) (ha : rdW g va xs) (hb : rdW g vb ys) : FnC Try.prog f_slices_Equal_S_uint64_uint64 [va, vb] g n (fun _ => False) (.bool (decide (xs = ys))) g n := by
  refine fnC_of_rwp t_slices_Equal_S_uint64_uint64 hm rfl fun hdom => ?_
  obtain ⟨a, ea, hva⟩ := ha.form
  obtain ⟨b, eb, hvb⟩ := hb.form
  by_cases hne : xs.length = ys.length
  case neg =>
    simp (maxSteps := 1000000) (disch := first | assumption | omega | rfl | decide) [↓rules, rules, lit_u64, aEval_U, splice_nil, splice_zero, splice_step, gset_gset, Int.ofNat_inj, U_junk, U_cells, U_cellOk, ub_and, ub_or, ub_xor, ub_andNot, ub_add, ub_sub, ub_mul, ub_shl, ub_shr, ub_shl', ub_shr', ub_eql, ub_neq, ub_lss, ub_leq, ub_gtr, ub_geq, rc_slices_Equal_S_uint64_uint64, hva, hvb, tu_S_uint64, hne]
    refine done_q hdom (Kept.refl hdom) ?_ ?_; · rfl
    rw [show decide (xs = ys) = false by simp only [decide_eq_false_iff_not]; intro h; exact hne (by rw [h])]; rfl
  simp (maxSteps := 1000000) (disch := first | assumption | omega | rfl | decide) [↓rules, rules, lit_u64, aEval_U, splice_nil, splice_zero, splice_step, gset_gset, Int.ofNat_inj, U_junk, U_cells, U_cellOk, ub_and, ub_or, ub_xor, ub_andNot, ub_add, ub_sub, ub_mul, ub_shl, ub_shr, ub_shl', ub_shr', ub_eql, ub_neq, ub_lss, ub_leq, ub_gtr, ub_geq, rc_slices_Equal_S_uint64_uint64, hva, hvb, tu_S_uint64, hne]
  rw [← hvb, show Value.slice a ys.length ea = va by rw [hva, hne]]
  refine rwp_loop (fun k l g' n' => ∃ i, k = xs.length - i ∧ i ≤ xs.length ∧ g' = g ∧ n' = n ∧ xs.take i = ys.take i ∧ l = [(0, va), (1, vb), (12, .int .i64 ys.length), (13, .int .i64 i)]) ?_ (k := xs.length) ?_
  · rintro k l g' n' ⟨i, rfl, hi, rfl, rfl, he, rfl⟩
    simp (maxSteps := 1000000) (disch := first | assumption | omega | rfl | decide) [↓rules, rules, lit_u64, aEval_U, splice_nil, splice_zero, splice_step, gset_gset, Int.ofNat_inj, U_junk, U_cells, U_cellOk, ub_and, ub_or, ub_xor, ub_andNot, ub_add, ub_sub, ub_mul, ub_shl, ub_shr, ub_shl', ub_shr', ub_eql, ub_neq, ub_lss, ub_leq, ub_gtr, ub_geq, rc_slices_Equal_S_uint64_uint64l0, hva, tu_S_uint64]
    refine rcond_dec (fun hlt => ?_) (fun hlt => ?_)
    · have hlt2 : i < ys.length := by omega
      have hlt1 : i < xs.length := by omega
      obtain ⟨b1, o1, h1, _, h2⟩ := ha.one hlt1
      obtain ⟨b2, o2, h3, _, h4⟩ := hb.one hlt2
      have e1 := h2 g' (Ext.refl _) Try.prog _ ta_uint64
      have e2 := h4 g' (Ext.refl _) Try.prog _ ta_uint64
      rw [← hva]
      simp (maxSteps := 1000000) (disch := first | assumption | omega | rfl | decide) [↓rules, rules, lit_u64, aEval_U, splice_nil, splice_zero, splice_step, gset_gset, Int.ofNat_inj, U_junk, U_cells, U_cellOk, ub_and, ub_or, ub_xor, ub_andNot, ub_add, ub_sub, ub_mul, ub_shl, ub_shr, ub_shl', ub_shr', ub_eql, ub_neq, ub_lss, ub_leq, ub_gtr, ub_geq, h1, h3, tu_S_uint64, ts_uint64, e1, e2, hne, hlt2]
      have htake : ∀ (zs : List (BitVec 64)) (h : i < zs.length), zs.take (i + 1) = zs.take i ++ [zs[i]] := fun zs h => by rw [List.take_add_one, List.getElem?_eq_getElem h]; rfl
      refine rcond_bool (fun c => ?_) (fun c => ?_)
      · refine done_q hdom (Kept.refl hdom) ?_ ?_; · rfl
        have c : xs[i] ≠ ys[i] := by simpa using c
        rw [show decide (xs = ys) = false by simp only [decide_eq_false_iff_not]; intro h; subst h; exact c rfl]; rfl
      · have c : xs[i] = ys[i] := by simpa using c
        simp (maxSteps := 1000000) (disch := first | assumption | omega | rfl | decide) [↓rules, rules, lit_u64, aEval_U, splice_nil, splice_zero, splice_step, gset_gset, Int.ofNat_inj, U_junk, U_cells, U_cellOk, ub_and, ub_or, ub_xor, ub_andNot, ub_add, ub_sub, ub_mul, ub_shl, ub_shr, ub_shl', ub_shr', ub_eql, ub_neq, ub_lss, ub_leq, ub_gtr, ub_geq, wrap_i64]
        refine ⟨ys.length - (i + 1), by omega, i + 1, rfl, by omega, ?_⟩
        refine ⟨by rw [htake xs hlt1, htake ys hlt2, he, c], ?_⟩
        simp
    · refine done_q hdom (Kept.refl hdom) ?_ ?_; · rfl
      have e1 : i = xs.length := by omega
      have e2 : i = ys.length := by omega
      rw [e1, List.take_length, ← e1, e2, List.take_length] at he
      rw [show decide (xs = ys) = true by simpa using he]; rfl
  · exact ⟨0, by simp, by simp, rfl, rfl, by simp, by rfl⟩
end Go.Proofs.Ytcndbfekcmalmaa.F6

namespace Go.Proofs.Ytcndbfekcmalmaa.F6
open Go Go.Proofs Go.Proofs.YtcndbfekcmalmaaAbs Go.Proofs.YtcndbfekcmalmaaAbs.Flt
set_option maxRecDepth 100000
/-! Whole complex numbers, by their parts. -/
def inZ (v : Int) : Bool := decide (-1099511627776 ≤ v ∧ v ≤ 1099511627776)
def partsZ (x y : Nat) : Int × Int × Bool := if (wholeF x).2 = true ∧ (wholeF y).2 = true then ((wholeF x).1, (wholeF y).1, true) else (0, 0, false)
def ofZ (a b : Int) : Nat × Nat × Bool := if inZ a = true ∧ inZ b = true then (nearF a, nearF b, true) else (0, 0, false)
def smallZ (a b : Int) : Bool := decide (-1073741824 ≤ a ∧ a ≤ 1073741824 ∧ -1073741824 ≤ b ∧ b ≤ 1073741824)
def mulI (a b c d : Int) : Int × Int := (a * c - b * d, a * d + b * c)
def turnI : Nat → Int × Int → Int × Int
  | 0, z => z
  | k + 1, z => turnI k (-z.2, z.1)
def restI (v : Int) : Int := v % 1000003
def p16 (w : BitVec 64) (k : Nat) : Int := ((w.toNat / 2 ^ (16 * k) % 65536 : Nat) : Int)
def stepI (z : Int × Int) (w : BitVec 64) : Int × Int := (restI (-z.2 + (p16 w 0 - p16 w 2)), restI (z.1 + (p16 w 1 - p16 w 3)))
def spinI (z : Int × Int) (l : List (BitVec 64)) : Int × Int := l.foldl stepI z
theorem wholeF_no {x : Nat} (h : (wholeF x).2 ≠ true) : (wholeF x) = (0, false) := by
  unfold wholeF at h ⊢
  split
  · rename_i c; rw [if_pos c] at h; exact absurd rfl h
  · rfl
theorem partsZ_in (x y : Nat) : (-1099511627776 ≤ (partsZ x y).1 ∧ (partsZ x y).1 ≤ 1099511627776) ∧ -1099511627776 ≤ (partsZ x y).2.1 ∧ (partsZ x y).2.1 ≤ 1099511627776 := by
  unfold partsZ
  split
  · exact ⟨wholeF_in, wholeF_in⟩
  · simp
theorem partsZ_near {a b : Int} (ha : inZ a = true) (hb : inZ b = true) : partsZ (nearF a) (nearF b) = (a, b, true) := by
  have ha := of_decide_eq_true ha
  have hb := of_decide_eq_true hb
  unfold partsZ
  rw [near_whole ha.1 ha.2, near_whole hb.1 hb.2]
  simp
theorem partsZ_of {a b : Int} (h : (ofZ a b).2.2 = true) : partsZ (ofZ a b).1 (ofZ a b).2.1 = (a, b, true) := by
  unfold ofZ at h ⊢
  split
  · rename_i c; exact partsZ_near c.1 c.2
  · rename_i c; rw [if_neg c] at h; cases h
theorem partsZ_0 : partsZ 0 0 = (0, 0, true) := partsZ_near (a := 0) (b := 0) rfl rfl
theorem turn_succ : ∀ (k : Nat) (z : Int × Int), turnI (k + 1) z = (-(turnI k z).2, (turnI k z).1)
  | 0, z => rfl
  | k + 1, z => by rw [turnI, turn_succ k]; rfl
theorem turn_add (k : Nat) : ∀ (j : Nat) (z : Int × Int), turnI j (turnI k z) = turnI (k + j) z
  | 0, z => rfl
  | j + 1, z => by rw [turn_succ, turn_add k j z, ← Nat.add_assoc, turn_succ]
theorem turn_four (z : Int × Int) : turnI 4 z = z := by simp [turnI]
theorem turn_mod (k : Nat) (z : Int × Int) : turnI (k % 4) z = turnI k z := by
  have h : ∀ j : Nat, turnI (4 * j) z = z := by
    intro j
    induction j with
    | zero => rfl
    | succ j ih => rw [Nat.mul_succ, ← turn_add, ih, turn_four]
  have e : k = 4 * (k / 4) + k % 4 := by omega
  rw [e, ← turn_add, h]
  congr 1; omega
/-- Of so many quarters, from 0 on. -/
def quarters (n : Int) : Nat := (n % 4).toNat
theorem turn_quarters (m n : Int) (z : Int × Int) : turnI (quarters n) (turnI (quarters m) z) = turnI (quarters (m + n)) z := by
  rw [turn_add, ← turn_mod]
  congr 1
  unfold quarters; omega
theorem turn_in {k : Nat} {a b : Int} (ha : inZ a = true) (hb : inZ b = true) : inZ (turnI k (a, b)).1 = true ∧ inZ (turnI k (a, b)).2 = true := by
  induction k generalizing a b with
  | zero => exact ⟨ha, hb⟩
  | succ k ih =>
    rw [turnI]
    have hb := of_decide_eq_true hb
    exact ih (decide_eq_true (by omega)) ha
theorem restI_in (v : Int) : 0 ≤ restI v ∧ restI v < 1000003 := by unfold restI; omega
theorem spin_in : ∀ (l : List (BitVec 64)) (z : Int × Int), (0 ≤ z.1 ∧ z.1 < 1000003) → (0 ≤ z.2 ∧ z.2 < 1000003) → (0 ≤ (spinI z l).1 ∧ (spinI z l).1 < 1000003) ∧ 0 ≤ (spinI z l).2 ∧ (spinI z l).2 < 1000003
  | [], z, h1, h2 => ⟨h1, h2⟩
  | w :: l, z, h1, h2 => spin_in l (stepI z w) (restI_in _) (restI_in _)
theorem spin_snoc (z : Int × Int) (l : List (BitVec 64)) (w : BitVec 64) : spinI z (l ++ [w]) = stepI (spinI z l) w := by simp [spinI]
theorem spin_app (z : Int × Int) (l m : List (BitVec 64)) : spinI z (l ++ m) = spinI (spinI z l) m := by simp [spinI]
/-- Rows one behind the other. -/
theorem spin_long : ∀ (m : List (BitVec 64)) (z : Int × Int), (0 ≤ z.1 ∧ z.1 < 1000003) → (0 ≤ z.2 ∧ z.2 < 1000003) →
    spinI z m = (restI ((turnI m.length z).1 + (spinI (0, 0) m).1), restI ((turnI m.length z).2 + (spinI (0, 0) m).2)) := by
  intro m z h1 h2
  suffices ∀ k, spinI z (m.take k) = (restI ((turnI (m.take k).length z).1 + (spinI (0, 0) (m.take k)).1), restI ((turnI (m.take k).length z).2 + (spinI (0, 0) (m.take k)).2)) by
    have := this m.length
    rwa [List.take_length] at this
  intro k
  induction k with
  | zero =>
    simp only [List.take_zero, spinI, List.foldl_nil, List.length_nil, turnI, Int.add_zero]
    unfold restI
    apply Prod.ext
    · simp only; omega
    · simp only; omega
  | succ k ih =>
    by_cases hk : k < m.length
    · rw [List.take_add_one, List.getElem?_eq_getElem hk]
      simp only [Option.toList_some]
      rw [spin_snoc, spin_snoc, ih, List.length_append, List.length_cons, List.length_nil, turn_succ]
      generalize turnI (m.take k).length z = t
      generalize spinI (0, 0) (m.take k) = s
      generalize m[k] = w
      unfold stepI
      simp only [restI]
      apply Prod.ext
      · simp only; omega
      · simp only; omega
    · rw [List.take_of_length_le (by omega)]
      rw [List.take_of_length_le (by omega)] at ih
      exact ih
/-- Apart in one of the two, by less than a word's part. -/
def Apart (z y : Int × Int) : Prop := ((0 ≤ z.1 ∧ z.1 < 1000003) ∧ (0 ≤ z.2 ∧ z.2 < 1000003) ∧ (0 ≤ y.1 ∧ y.1 < 1000003) ∧ 0 ≤ y.2 ∧ y.2 < 1000003) ∧
  ∃ d : Int, d ≠ 0 ∧ -65536 < d ∧ d < 65536 ∧ ((z.1 - y.1 - d) % 1000003 = 0 ∧ z.2 = y.2 ∨ z.1 = y.1 ∧ (z.2 - y.2 - d) % 1000003 = 0)
theorem Apart.ne {z y : Int × Int} (h : Apart z y) : z ≠ y := by
  rintro rfl
  obtain ⟨_, d, h1, h2, h3, h4⟩ := h
  omega
theorem Apart.step {z y : Int × Int} (h : Apart z y) (w : BitVec 64) : Apart (stepI z w) (stepI y w) := by
  obtain ⟨⟨r1, r2, r3, r4⟩, d, h1, h2, h3, h4⟩ := h
  refine ⟨⟨restI_in _, restI_in _, restI_in _, restI_in _⟩, ?_⟩
  unfold stepI restI
  generalize p16 w 0 - p16 w 2 = s
  generalize p16 w 1 - p16 w 3 = t
  rcases h4 with ⟨h4, h5⟩ | ⟨h4, h5⟩
  · refine ⟨d, h1, h2, h3, Or.inr ⟨?_, ?_⟩⟩
    · rw [h5]
    · simp only; omega
  · refine ⟨-d, by omega, by omega, by omega, Or.inl ⟨?_, ?_⟩⟩
    · simp only; omega
    · rw [h4]
theorem Apart.spin : ∀ (l : List (BitVec 64)) {z y : Int × Int}, Apart z y → Apart (spinI z l) (spinI y l)
  | [], _, _, h => h
  | w :: l, _, _, h => Apart.spin l (h.step w)
theorem p16_in (w : BitVec 64) (k : Nat) : 0 ≤ p16 w k ∧ p16 w k < 65536 := by unfold p16; omega
theorem apart_word {z : Int × Int} {w v : BitVec 64} (h1 : 0 ≤ z.1 ∧ z.1 < 1000003) (h2 : 0 ≤ z.2 ∧ z.2 < 1000003) {k : Nat} (hk : k < 4) (hne : p16 w k ≠ p16 v k) (hs : ∀ j, j < 4 → j ≠ k → p16 w j = p16 v j) : Apart (stepI z w) (stepI z v) := by
  refine ⟨⟨restI_in _, restI_in _, restI_in _, restI_in _⟩, ?_⟩
  have a0 := p16_in w 0; have a1 := p16_in w 1; have a2 := p16_in w 2; have a3 := p16_in w 3
  have b0 := p16_in v 0; have b1 := p16_in v 1; have b2 := p16_in v 2; have b3 := p16_in v 3
  unfold stepI restI
  have hk' : k = 0 ∨ k = 1 ∨ k = 2 ∨ k = 3 := by omega
  rcases hk' with rfl | rfl | rfl | rfl
  · have s1 := hs 1 (by omega) (by omega); have s2 := hs 2 (by omega) (by omega); have s3 := hs 3 (by omega) (by omega)
    exact ⟨p16 w 0 - p16 v 0, by omega, by omega, by omega, Or.inl ⟨by simp only; omega, by simp only; omega⟩⟩
  · have s1 := hs 0 (by omega) (by omega); have s2 := hs 2 (by omega) (by omega); have s3 := hs 3 (by omega) (by omega)
    exact ⟨p16 w 1 - p16 v 1, by omega, by omega, by omega, Or.inr ⟨by simp only; omega, by simp only; omega⟩⟩
  · have s1 := hs 0 (by omega) (by omega); have s2 := hs 1 (by omega) (by omega); have s3 := hs 3 (by omega) (by omega)
    exact ⟨p16 v 2 - p16 w 2, by omega, by omega, by omega, Or.inl ⟨by simp only; omega, by simp only; omega⟩⟩
  · have s1 := hs 0 (by omega) (by omega); have s2 := hs 1 (by omega) (by omega); have s3 := hs 2 (by omega) (by omega)
    exact ⟨p16 v 3 - p16 w 3, by omega, by omega, by omega, Or.inr ⟨by simp only; omega, by simp only; omega⟩⟩
/-- A row of which one word is another, in one part. -/
theorem spin_apart (l : List (BitVec 64)) (i : Nat) (hi : i < l.length) (v : BitVec 64) {k : Nat} (hk : k < 4) (hne : p16 l[i] k ≠ p16 v k) (hs : ∀ j, j < 4 → j ≠ k → p16 l[i] j = p16 v j) : Apart (spinI (0, 0) l) (spinI (0, 0) (l.set i v)) := by
  have e1 : l = l.take i ++ l[i] :: l.drop (i + 1) := by rw [← List.drop_eq_getElem_cons hi, List.take_append_drop]
  have e2 : l.set i v = l.take i ++ v :: l.drop (i + 1) := by rw [List.set_eq_take_append_cons_drop, if_pos hi]
  rw [e2]
  conv => lhs; rw [e1]
  rw [spin_app, spin_app]
  have hin := spin_in (l.take i) (0, 0) (by simp) (by simp)
  generalize spinI (0, 0) (l.take i) = z at hin ⊢
  exact Apart.spin (l.drop (i + 1)) (apart_word hin.1 hin.2 hk hne hs)
theorem mul_comm' (a b c d : Int) : mulI a b c d = mulI c d a b := by unfold mulI; apply Prod.ext <;> (simp only; grind)
theorem mul_assoc' (a b c d e f : Int) : mulI (mulI a b c d).1 (mulI a b c d).2 e f = mulI a b (mulI c d e f).1 (mulI c d e f).2 := by unfold mulI; apply Prod.ext <;> (simp only; grind)
theorem mul_dist (a b c d e f : Int) : mulI a b (c + e) (d + f) = ((mulI a b c d).1 + (mulI a b e f).1, (mulI a b c d).2 + (mulI a b e f).2) := by unfold mulI; apply Prod.ext <;> (simp only; grind)
theorem mul_norm (a b c d : Int) : (mulI a b c d).1 * (mulI a b c d).1 + (mulI a b c d).2 * (mulI a b c d).2 = (a * a + b * b) * (c * c + d * d) := by unfold mulI; simp only; grind
end Go.Proofs.Ytcndbfekcmalmaa.F6

namespace Go.Proofs.Ytcndbfekcmalmaa.F6
open Go Go.Proofs Go.Proofs.YtcndbfekcmalmaaAbs Go.Proofs.YtcndbfekcmalmaaAbs.Flt
set_option maxRecDepth 100000
/-! Words and their four parts. -/
theorem part_bits (w : BitVec 64) (k i : Nat) (hk : k < 4) (hi : i < 16) : (w.toNat / 2 ^ (16 * k) % 65536).testBit i = w.getLsbD (16 * k + i) := by
  rw [show (65536 : Nat) = 2 ^ 16 from rfl, Nat.testBit_mod_two_pow, decide_eq_true hi, Bool.true_and, Nat.testBit_div_two_pow]
  show w.toNat.testBit (i + 16 * k) = w.toNat.testBit (16 * k + i)
  rw [Nat.add_comm]
theorem part_eq {w v : BitVec 64} {k : Nat} (hk : k < 4) (h : ∀ i, i < 16 → w.getLsbD (16 * k + i) = v.getLsbD (16 * k + i)) : p16 w k = p16 v k := by
  unfold p16
  congr 1
  apply Nat.eq_of_testBit_eq
  intro i
  by_cases hi : i < 16
  · rw [part_bits w k i hk hi, part_bits v k i hk hi, h i hi]
  · have hlt : ∀ x : Nat, (x % 65536).testBit i = false := fun x => Nat.testBit_lt_two_pow (Nat.lt_of_lt_of_le (Nat.mod_lt x (by decide)) (show 2 ^ 16 ≤ 2 ^ i from Nat.pow_le_pow_right (by decide) (by omega)))
    rw [hlt, hlt]
theorem word_ext {w v : BitVec 64} (h : ∀ k, k < 4 → p16 w k = p16 v k) : w = v := by
  apply BitVec.eq_of_getLsbD_eq
  intro i hi
  have hk := h (i / 16) (by omega)
  unfold p16 at hk
  have hk : w.toNat / 2 ^ (16 * (i / 16)) % 65536 = v.toNat / 2 ^ (16 * (i / 16)) % 65536 := by omega
  have : (w.toNat / 2 ^ (16 * (i / 16)) % 65536).testBit (i % 16) = (v.toNat / 2 ^ (16 * (i / 16)) % 65536).testBit (i % 16) := by rw [hk]
  rw [part_bits _ _ _ (by omega) (by omega), part_bits _ _ _ (by omega) (by omega)] at this
  rwa [show 16 * (i / 16) + i % 16 = i by omega] at this
/-- One part put anew. -/
def putP (w : BitVec 64) (k : Nat) (t : Nat) : BitVec 64 := (w &&& ~~~(65535#64 <<< (16 * k))) ||| (BitVec.ofNat 64 t <<< (16 * k))
theorem putP_bit (w : BitVec 64) (k t j i : Nat) (hk : k < 4) (hj : j < 4) (hi : i < 16) (ht : t < 65536) : (putP w k t).getLsbD (16 * j + i) = if j = k then t.testBit i else w.getLsbD (16 * j + i) := by
  unfold putP
  simp only [BitVec.getLsbD_or, BitVec.getLsbD_and, BitVec.getLsbD_not, BitVec.getLsbD_shiftLeft]
  have h64 : 16 * j + i < 64 := by omega
  have hm : ∀ x, (65535#64).getLsbD x = decide (x < 16) := fun x => by
    have : (65535#64).getLsbD x = (2 ^ 16 - 1 : Nat).testBit x := rfl
    rw [this, Nat.testBit_two_pow_sub_one]
  have htb : ∀ x, 16 ≤ x → t.testBit x = false := fun x hx => Nat.testBit_lt_two_pow (Nat.lt_of_lt_of_le ht (show 2 ^ 16 ≤ 2 ^ x from Nat.pow_le_pow_right (by decide) hx))
  have hof : ∀ x, x < 64 → (BitVec.ofNat 64 t).getLsbD x = t.testBit x := fun x hx => by
    rw [BitVec.getLsbD_ofNat]; simp [hx]
  rw [hm]
  by_cases e : j = k
  · subst e
    rw [if_pos rfl, show 16 * j + i - 16 * j = i by omega, hof i (by omega)]
    have hnl : ¬ 16 * j + i < 16 * j := by omega
    simp [h64, hi, hnl]
  · rw [if_neg e]
    by_cases hlt : 16 * j + i < 16 * k
    · simp [h64, hlt]
    · have hge : ¬ 16 * j + i - 16 * k < 16 := by omega
      rw [hof _ (by omega), htb _ (by omega)]
      simp [h64, hlt, hge]
theorem putP_same (w : BitVec 64) {k t : Nat} (hk : k < 4) (ht : t < 65536) : p16 (putP w k t) k = t := by
  unfold p16
  congr 1
  apply Nat.eq_of_testBit_eq
  intro i
  by_cases hi : i < 16
  · rw [part_bits _ _ _ hk hi, putP_bit w k t k i hk hk hi ht, if_pos rfl]
  · have hlt : ∀ x : Nat, x < 65536 → x.testBit i = false := fun x hx => Nat.testBit_lt_two_pow (Nat.lt_of_lt_of_le hx (show 2 ^ 16 ≤ 2 ^ i from Nat.pow_le_pow_right (by decide) (by omega)))
    rw [hlt _ (Nat.mod_lt _ (by decide)), hlt t ht]
theorem putP_other (w : BitVec 64) {k t j : Nat} (hk : k < 4) (ht : t < 65536) (hj : j < 4) (h : j ≠ k) : p16 (putP w k t) j = p16 w j :=
  part_eq hj fun i hi => by rw [putP_bit w k t j i hk hj hi ht, if_neg h]
/-- One part of one word put anew: another number, or the same row. -/
theorem spin_put (l : List (BitVec 64)) (i : Nat) (hi : i < l.length) {k t : Nat} (hk : k < 4) (ht : t < 65536) :
    spinI (0, 0) l = spinI (0, 0) (l.set i (putP l[i] k t)) ↔ l[i] = putP l[i] k t := by
  constructor
  · intro h
    refine Classical.byContradiction fun hne => ?_
    have hp : p16 l[i] k ≠ p16 (putP l[i] k t) k := fun e => hne (word_ext fun j hj => by
      by_cases c : j = k
      · subst c; exact e
      · exact (putP_other l[i] hk ht hj c).symm)
    exact (spin_apart l i hi (putP l[i] k t) hk hp fun j hj c => (putP_other l[i] hk ht hj c).symm).ne h
  · intro h; rw [← h, List.set_getElem_self]
end Go.Proofs.Ytcndbfekcmalmaa.F6

namespace Go.Proofs.Ytcndbfekcmalmaa.F6
open Go Go.Proofs Go.Proofs.YtcndbfekcmalmaaAbs
set_option maxRecDepth 100000
/-! Functions of package math that the model knows. -/
theorem x_archTrunc : extFn Try.prog f_math_archTrunc = some (Extern.MathFloor.toIntegral "math.archTrunc" .zero) := by kernel_rfl
theorem x_Float64bits : extFn Try.prog f_math_Float64bits = some Extern.MathFloatBits.float64bits := by kernel_rfl
noncomputable def ext : XExt := [(f_math_archTrunc, xext Try.prog (Extern.MathFloor.toIntegral "math.archTrunc" .zero)), (f_math_Float64bits, xext Try.prog Extern.MathFloatBits.float64bits)]
theorem extOk : ExtOk Try.prog ext := .cons (xext_ok x_archTrunc) (.cons (xext_ok x_Float64bits) .nil)
end Go.Proofs.Ytcndbfekcmalmaa.F6

namespace Go.Proofs.Ytcndbfekcmalmaa.F6
open Go Go.Proofs Go.Proofs.YtcndbfekcmalmaaAbs Go.Proofs.YtcndbfekcmalmaaAbs.Flt
set_option maxHeartbeats 4000000
set_option maxRecDepth 100000
theorem low_lit : low = 14010698440749613056 := by decide
theorem top_lit : top = 4787326403894837248 := by decide
theorem math_Trunc {x : Nat} {s : Bool} {m : Nat} {e : Int} (hd : Flt.D.read x = .number s m e) (g : AMem) (n : Nat) : FnC Try.prog f_math_Trunc [.float .f64 x] g n (fun _ => False) (.float .f64 (truncF x)) g n := by
  refine fnC_of_rwp t_math_Trunc hm rfl fun hdom => ?_
  simp (maxSteps := 1000000) (disch := first | assumption | omega | rfl | decide | simp only [fitsR, Bool.and_self]) [↓rules, rules, ↓rulesDp, rulesDq, lit_u64, Int.ofNat_inj, stops, rc_math_Trunc, q_float64]
  refine rcall_quiet rfl (fnC_ext (v := .float .f64 (truncF x)) x_archTrunc rfl ?_) ?_
  · have hk : FloatKind.f64.decode x = .number s m e := hd
    have : Extern.MathFloor.toIntegral "math.archTrunc" .zero #[.float .f64 x] = .pure (.float .f64 (truncF x)) := by
      show (match FloatKind.f64.decode x with
        | .nan s t => _
        | d => _) = _
      rw [hk]
      show Sem.pure _ = _
      congr 2
      unfold truncF
      rw [hd]; rfl
    simp only [pureFlat, this, Sem.pureRun]
    rfl
  · simp (maxSteps := 1000000) (disch := first | assumption | omega | rfl | decide | simp only [fitsR, Bool.and_self]) [↓rules, rules, ↓rulesDp, rulesDq, lit_u64, Int.ofNat_inj, stops, q_float64]
    exact done_q hdom (Kept.refl hdom) rfl rfl
theorem math_Signbit {x : Nat} (hx : x < 18446744073709551616) (g : AMem) (n : Nat) : FnC Try.prog f_math_Signbit [.float .f64 x] g n (fun _ => False) (.bool (sgnF x)) g n := by
  refine fnC_of_rwp t_math_Signbit hm rfl fun hdom => ?_
  simp (maxSteps := 1000000) (disch := first | assumption | omega | rfl | decide | simp only [fitsR, Bool.and_self]) [↓rules, rules, ↓rulesDp, rulesDq, lit_u64, Int.ofNat_inj, stops, rc_math_Signbit, q_int64, q_bool, q_uint64, q_float64]
  refine rcall_quiet rfl (fnC_ext (v := .int .u64 x) x_Float64bits rfl rfl) ?_
  have e : IntKind.i64.wrap (x : Int) = if 9223372036854775808 ≤ x then (x : Int) - 18446744073709551616 else x := by
    simp only [IntKind.wrap, IntKind.bits, IntKind.signed]
    have : (x : Int) % 2 ^ 64 = x := Int.emod_eq_of_lt (by omega) (by omega)
    simp only [this]
    by_cases h : 9223372036854775808 ≤ x
    · rw [if_pos h, if_pos (by simp; omega)]; rfl
    · rw [if_neg h, if_neg (by simp; omega)]
  simp (maxSteps := 1000000) (disch := first | assumption | omega | rfl | decide | simp only [fitsR, Bool.and_self]) [↓rules, rules, ↓rulesDp, rulesDq, lit_u64, Int.ofNat_inj, stops, q_int64, q_bool, q_uint64, q_float64, conv_int tu_uint64 tu_int64, e]
  refine done_q hdom (Kept.refl hdom) rfl ?_
  have e2 : decide ((if 9223372036854775808 ≤ x then (x : Int) - 18446744073709551616 else x) < 0) = sgnF x := by
    unfold sgnF
    by_cases h : 9223372036854775808 ≤ x
    · rw [if_pos h, decide_eq_true h, decide_eq_true (by omega)]
    · rw [if_neg h, decide_eq_false h, decide_eq_false (by omega)]
  rw [← e2]; rfl
theorem gauss_whole {x : Nat} (hx : x < 18446744073709551616) (g : AMem) (n : Nat) : FnC Try.prog f_gauss_whole [.float .f64 x] g n (fun _ => False) (.tuple #[.int .i64 (wholeF x).1, .bool (wholeF x).2]) g n := by
  refine fnC_of_rwp t_gauss_whole hm rfl fun hdom => ?_
  cases c1 : geF x low
  · have c1' := c1
    rw [low_lit] at c1'
    simp (maxSteps := 1000000) (disch := first | assumption | omega | rfl | decide | simp only [fitsR, Bool.and_self]) [↓rules, rules, ↓rulesDp, rulesDq, lit_u64, Int.ofNat_inj, stops, rc_gauss_whole, q_int64, q_bool, q_float64, rulesF, c1']
    refine done_q hdom (Kept.refl hdom) rfl ?_
    rw [wholeF, if_neg (fun h => by rw [c1] at h; cases h.1)]; rfl
  cases c2 : leF x top
  · have c1' := c1; have c2' := c2
    rw [low_lit] at c1'; rw [top_lit] at c2'
    simp (maxSteps := 1000000) (disch := first | assumption | omega | rfl | decide | simp only [fitsR, Bool.and_self]) [↓rules, rules, ↓rulesDp, rulesDq, lit_u64, Int.ofNat_inj, stops, rc_gauss_whole, q_int64, q_bool, q_float64, rulesF, c1', c2']
    refine done_q hdom (Kept.refl hdom) rfl ?_
    rw [wholeF, if_neg (fun h => by rw [c2] at h; cases h.2.1)]; rfl
  obtain ⟨s, m, e, hd, hT⟩ := between c1 c2
  have c1' := c1; have c2' := c2
  rw [low_lit] at c1'; rw [top_lit] at c2'
  simp (maxSteps := 1000000) (disch := first | assumption | omega | rfl | decide | simp only [fitsR, Bool.and_self]) [↓rules, rules, ↓rulesDp, rulesDq, lit_u64, Int.ofNat_inj, stops, rc_gauss_whole, q_int64, q_bool, q_float64, rulesF, c1', c2']
  refine rcall_quiet rfl (math_Trunc hd _ _) ?_
  have hi := intF_le c1 c2
  have hcv : aConv Try.prog T_float64 T_int64 (.float .f64 x) = some (.int .i64 (intF x)) := conv_of_f64 tu_float64 tu_int64 hd (by omega)
  cases c3 : eqF x (truncF x)
  · simp (maxSteps := 1000000) (disch := first | assumption | omega | rfl | decide | simp only [fitsR, Bool.and_self]) [↓rules, rules, ↓rulesDp, rulesDq, lit_u64, Int.ofNat_inj, stops, q_int64, q_bool, q_float64, rulesF, c3]
    refine done_q hdom (Kept.refl hdom) rfl ?_
    rw [wholeF, if_neg (fun h => by rw [c3] at h; cases h.2.2.1)]; rfl
  cases c4 : eqF x 0
  · simp (maxSteps := 1000000) (disch := first | assumption | omega | rfl | decide | simp only [fitsR, Bool.and_self]) [↓rules, rules, ↓rulesDp, rulesDq, lit_u64, Int.ofNat_inj, stops, q_int64, q_bool, q_float64, rulesF, c3, c4, hcv]
    refine done_q hdom (Kept.refl hdom) rfl ?_
    rw [wholeF, if_pos ⟨c1, c2, c3, fun h => by have := h.1; rw [show zeroF = 0 from rfl, c4] at this; cases this⟩]; rfl
  simp (maxSteps := 1000000) (disch := first | assumption | omega | rfl | decide | simp only [fitsR, Bool.and_self]) [↓rules, rules, ↓rulesDp, rulesDq, lit_u64, Int.ofNat_inj, stops, q_int64, q_bool, q_float64, rulesF, c3, c4]
  refine rcall_quiet rfl (math_Signbit hx _ _) ?_
  cases c5 : sgnF x
  · simp (maxSteps := 1000000) (disch := first | assumption | omega | rfl | decide | simp only [fitsR, Bool.and_self]) [↓rules, rules, ↓rulesDp, rulesDq, lit_u64, Int.ofNat_inj, stops, q_int64, q_bool, q_float64, hcv]
    refine done_q hdom (Kept.refl hdom) rfl ?_
    rw [wholeF, if_pos ⟨c1, c2, c3, fun h => by rw [c5] at h; cases h.2⟩]; rfl
  · simp (maxSteps := 1000000) (disch := first | assumption | omega | rfl | decide | simp only [fitsR, Bool.and_self]) [↓rules, rules, ↓rulesDp, rulesDq, lit_u64, Int.ofNat_inj, stops, q_int64, q_bool, q_float64]
    refine done_q hdom (Kept.refl hdom) rfl ?_
    rw [wholeF, if_neg (fun h => h.2.2.2 ⟨c4, c5⟩)]; rfl
end Go.Proofs.Ytcndbfekcmalmaa.F6

namespace Go.Proofs.Ytcndbfekcmalmaa.F6
open Go Go.Proofs Go.Proofs.YtcndbfekcmalmaaAbs Go.Proofs.YtcndbfekcmalmaaAbs.Flt
set_option maxHeartbeats 4000000
set_option maxRecDepth 100000
abbrev okX (x : Nat) : Prop := x < 18446744073709551616
abbrev cv (x y : Nat) : Value := .complex .f64 x y
theorem gauss_Parts {x y : Nat} (hx : okX x) (hy : okX y) (g : AMem) (n : Nat) : FnC Try.prog f_gauss_Parts [cv x y] g n (fun _ => False) (.tuple #[.int .i64 (partsZ x y).1, .int .i64 (partsZ x y).2.1, .bool (partsZ x y).2.2]) g n := by
  refine fnC_of_rwp t_gauss_Parts hm rfl fun hdom => ?_
  simp (maxSteps := 1000000) (disch := first | assumption | omega | rfl | decide | simp only [fitsR, Bool.and_self]) [↓rules, rules, ↓rulesDp, rulesDq, lit_u64, Int.ofNat_inj, stops, rc_gauss_Parts, q_int64, q_bool, q_complex128, q_float64, rulesF, rdo_builtin]
  refine rcall_quiet rfl (gauss_whole hx _ _) ?_
  simp (maxSteps := 1000000) (disch := first | assumption | omega | rfl | decide | simp only [fitsR, Bool.and_self]) [↓rules, rules, ↓rulesDp, rulesDq, lit_u64, Int.ofNat_inj, stops, q_int64, q_bool, q_complex128, q_float64, rulesF, rdo_builtin]
  refine rcall_quiet rfl (gauss_whole hy _ _) ?_
  unfold partsZ
  cases c1 : (wholeF x).2
  · simp (maxSteps := 1000000) (disch := first | assumption | omega | rfl | decide | simp only [fitsR, Bool.and_self]) [↓rules, rules, ↓rulesDp, rulesDq, lit_u64, Int.ofNat_inj, stops, q_int64, q_bool, q_complex128, q_float64]
    refine done_q hdom (Kept.refl hdom) rfl ?_
    first | rfl | (simp; rfl)
  cases c2 : (wholeF y).2
  · simp (maxSteps := 1000000) (disch := first | assumption | omega | rfl | decide | simp only [fitsR, Bool.and_self]) [↓rules, rules, ↓rulesDp, rulesDq, lit_u64, Int.ofNat_inj, stops, q_int64, q_bool, q_complex128, q_float64]
    refine done_q hdom (Kept.refl hdom) rfl ?_
    first | rfl | (simp; rfl)
  simp (maxSteps := 1000000) (disch := first | assumption | omega | rfl | decide | simp only [fitsR, Bool.and_self]) [↓rules, rules, ↓rulesDp, rulesDq, lit_u64, Int.ofNat_inj, stops, q_int64, q_bool, q_complex128, q_float64]
  refine done_q hdom (Kept.refl hdom) rfl ?_
  first | rfl | (simp; rfl)
theorem gauss_in (v : Int) (g : AMem) (n : Nat) : FnC Try.prog f_gauss_in [.int .i64 v] g n (fun _ => False) (.bool (inZ v)) g n := by
  refine fnC_of_rwp t_gauss_in hm rfl fun hdom => ?_
  unfold inZ
  by_cases c1 : -1099511627776 ≤ v
  · simp (maxSteps := 1000000) (disch := first | assumption | omega | rfl | decide | simp only [fitsR, Bool.and_self]) [↓rules, rules, ↓rulesDp, rulesDq, lit_u64, Int.ofNat_inj, stops, rc_gauss_in, q_int64, q_bool, c1]
    refine done_q hdom (Kept.refl hdom) rfl ?_
    first | rfl | (simp [c1]; rfl)
  · simp (maxSteps := 1000000) (disch := first | assumption | omega | rfl | decide | simp only [fitsR, Bool.and_self]) [↓rules, rules, ↓rulesDp, rulesDq, lit_u64, Int.ofNat_inj, stops, rc_gauss_in, q_int64, q_bool, c1]
    refine done_q hdom (Kept.refl hdom) rfl ?_
    first | rfl | (simp [c1]; rfl)
theorem gauss_Of (a b : Int) (g : AMem) (n : Nat) : FnC Try.prog f_gauss_Of [.int .i64 a, .int .i64 b] g n (fun _ => False) (.tuple #[cv (ofZ a b).1 (ofZ a b).2.1, .bool (ofZ a b).2.2]) g n := by
  refine fnC_of_rwp t_gauss_Of hm rfl fun hdom => ?_
  simp (maxSteps := 1000000) (disch := first | assumption | omega | rfl | decide | simp only [fitsR, Bool.and_self]) [↓rules, rules, ↓rulesDp, rulesDq, lit_u64, Int.ofNat_inj, stops, rc_gauss_Of, q_int64, q_bool, q_complex128, q_float64]
  refine rcall_quiet rfl (gauss_in _ _ _) ?_
  unfold ofZ
  cases c1 : inZ a
  · simp (maxSteps := 1000000) (disch := first | assumption | omega | rfl | decide | simp only [fitsR, Bool.and_self]) [↓rules, rules, ↓rulesDp, rulesDq, lit_u64, Int.ofNat_inj, stops, q_int64, q_bool, q_complex128, q_float64]
    refine done_q hdom (Kept.refl hdom) rfl ?_
    first | rfl | (simp; rfl)
  simp (maxSteps := 1000000) (disch := first | assumption | omega | rfl | decide | simp only [fitsR, Bool.and_self]) [↓rules, rules, ↓rulesDp, rulesDq, lit_u64, Int.ofNat_inj, stops, q_int64, q_bool, q_complex128, q_float64]
  refine rcall_quiet rfl (gauss_in _ _ _) ?_
  cases c2 : inZ b
  · simp (maxSteps := 1000000) (disch := first | assumption | omega | rfl | decide | simp only [fitsR, Bool.and_self]) [↓rules, rules, ↓rulesDp, rulesDq, lit_u64, Int.ofNat_inj, stops, q_int64, q_bool, q_complex128, q_float64]
    refine done_q hdom (Kept.refl hdom) rfl ?_
    first | rfl | (simp; rfl)
  simp (maxSteps := 1000000) (disch := first | assumption | omega | rfl | decide | simp only [fitsR, Bool.and_self]) [↓rules, rules, ↓rulesDp, rulesDq, lit_u64, Int.ofNat_inj, stops, q_int64, q_bool, q_complex128, q_float64, conv_to_f64 tu_int64 tu_float64, rulesF, rdo_builtin]
  refine done_q hdom (Kept.refl hdom) rfl ?_
  first | rfl | (simp; rfl)
theorem ofZ_ok {a b : Int} : okX (ofZ a b).1 ∧ okX (ofZ a b).2.1 := by
  unfold ofZ
  split
  · rename_i h
    have h1 := of_decide_eq_true h.1
    have h2 := of_decide_eq_true h.2
    exact ⟨near_lt _ (by omega), near_lt _ (by omega)⟩
  · exact ⟨by decide, by decide⟩
def addZ (x y u v : Nat) : Nat × Nat × Bool := if (partsZ x y).2.2 = true ∧ (partsZ u v).2.2 = true then ofZ ((partsZ x y).1 + (partsZ u v).1) ((partsZ x y).2.1 + (partsZ u v).2.1) else (0, 0, false)
def mxI (x y : Int) : Int := if y > x then y else x
noncomputable def maxO4 (P : Program) (u v w x : Value) : Option (Value × Eff) := if flatV u = true ∧ flatV v = true ∧ flatV w = true ∧ flatV x = true then (pureFlat P (Builtin.max_ #[] 0 #[u, v, w, x])).map fun v => (v, Eff.none) else none
theorem maxO4_int (P : Program) (a b c d : Int) : maxO4 P (.int .i64 a) (.int .i64 b) (.int .i64 c) (.int .i64 d) = some (.int .i64 (mxI (mxI (mxI a b) c) d), .none) := rfl
theorem aBuiltin_max4 (P : Program) (g : AMem) (n : Nat) (ty : TypeId) (ev : Operand → Value) (x y z w : Operand) (ts : Array TypeId) : aBuiltin P g n ty ev .max #[x, y, z, w] ts = maxO4 P (ev x) (ev y) (ev z) (ev w) := by
  unfold maxO4
  simp only [aBuiltin, List.all_cons, List.all_nil, Bool.and_true, Bool.and_eq_true, List.map_toArray, List.map_cons, List.map_nil]
  rfl
theorem max4_small (a b : Int) : decide (mxI (mxI (mxI a (-a)) b) (-b) ≤ 1073741824) = smallZ a b := by
  unfold smallZ mxI
  apply decide_eq_decide.2
  constructor
  · intro h; repeat' split at h
    all_goals omega
  · intro h; repeat' split
    all_goals omega
def mulZ (x y u v : Nat) : Nat × Nat × Bool := if (partsZ x y).2.2 = true ∧ (partsZ u v).2.2 = true ∧ smallZ (partsZ x y).1 (partsZ x y).2.1 = true ∧ smallZ (partsZ u v).1 (partsZ u v).2.1 = true then
    ofZ (mulI (partsZ x y).1 (partsZ x y).2.1 (partsZ u v).1 (partsZ u v).2.1).1 (mulI (partsZ x y).1 (partsZ x y).2.1 (partsZ u v).1 (partsZ u v).2.1).2 else (0, 0, false)
theorem prod_small {a b : Int} (ha : -1073741824 ≤ a ∧ a ≤ 1073741824) (hb : -1073741824 ≤ b ∧ b ≤ 1073741824) : -1152921504606846976 ≤ a * b ∧ a * b ≤ 1152921504606846976 := by
  have h1 : (a * b).natAbs ≤ 1073741824 * 1073741824 := by rw [Int.natAbs_mul]; exact Nat.mul_le_mul (by omega) (by omega)
  omega
def normZ (x y : Nat) : Int := if (partsZ x y).2.2 = true ∧ smallZ (partsZ x y).1 (partsZ x y).2.1 = true then (partsZ x y).1 * (partsZ x y).1 + (partsZ x y).2.1 * (partsZ x y).2.1 else -1
end Go.Proofs.Ytcndbfekcmalmaa.F6

namespace Go.Proofs.Ytcndbfekcmalmaa.F6
open Go Go.Proofs Go.Proofs.YtcndbfekcmalmaaAbs Go.Proofs.YtcndbfekcmalmaaAbs.Flt
set_option maxHeartbeats 4000000
set_option maxRecDepth 100000
theorem tmod_rest (v m : Int) (h : 0 < m) : (v.tmod m + m).tmod m = v % m := by
  have hlt := Int.tmod_lt_of_pos v h
  have hgt : -m < v.tmod m := by
    have := Int.lt_tmod_of_pos v h
    omega
  rw [Int.tmod_eq_emod_of_nonneg (by omega), Int.add_emod_right]
  rw [Int.tmod_eq_emod]
  split
  · simp
  · rw [Int.sub_emod, show ((m.natAbs : Int)) = m by omega]; simp
theorem gauss_rest (v : Int) (g : AMem) (n : Nat) : FnC Try.prog f_gauss_rest [.int .i64 v] g n (fun _ => False) (.int .i64 (restI v)) g n := by
  refine fnC_of_rwp t_gauss_rest hm rfl fun hdom => ?_
  have h1 := Int.tmod_lt_of_pos v (show (0:Int) < 1000003 by decide)
  have h2 := Int.lt_tmod_of_pos v (show (0:Int) < 1000003 by decide)
  have e := tmod_rest v 1000003 (by decide)
  have w : IntKind.i64.wrap (v.tmod 1000003 + 1000003) = v.tmod 1000003 + 1000003 := wrap_i64 (by omega) (by omega)
  unfold restI
  simp (maxSteps := 1000000) (disch := first | assumption | omega | rfl | decide | simp only [fitsR, Bool.and_self]) [↓rules, rules, ↓rulesDp, rulesDq, lit_u64, Int.ofNat_inj, stops, rc_gauss_rest, q_int64, bin_rem, w, e]
  exact done_q hdom (Kept.refl hdom) rfl rfl
def turnZ (x y : Nat) (q : Int) : Nat × Nat := if (partsZ x y).2.2 = true then (nearF (turnI (quarters q) ((partsZ x y).1, (partsZ x y).2.1)).1, nearF (turnI (quarters q) ((partsZ x y).1, (partsZ x y).2.1)).2) else (0, 0)
theorem gauss_Turn {x y : Nat} (hx : okX x) (hy : okX y) (q : Int) (g : AMem) (n : Nat) : FnC Try.prog f_gauss_Turn [cv x y, .int .i64 q] g n (fun _ => False) (cv (turnZ x y q).1 (turnZ x y q).2) g n := by
  refine fnC_of_rwp t_gauss_Turn hm rfl fun hdom => ?_
  simp (maxSteps := 1000000) (disch := first | assumption | omega | rfl | decide | simp only [fitsR, Bool.and_self]) [↓rules, rules, ↓rulesDp, rulesDq, lit_u64, Int.ofNat_inj, stops, rc_gauss_Turn, q_int64, q_int, q_bool, q_complex128]
  refine rcall_quiet rfl (gauss_Parts hx hy _ _) ?_
  have i1 := partsZ_in x y
  unfold turnZ
  cases c1 : (partsZ x y).2.2
  · simp (maxSteps := 1000000) (disch := first | assumption | omega | rfl | decide | simp only [fitsR, Bool.and_self]) [↓rules, rules, ↓rulesDp, rulesDq, lit_u64, Int.ofNat_inj, stops, q_int64, q_int, q_bool, q_complex128]
    refine done_q hdom (Kept.refl hdom) rfl ?_
    first | rfl | (simp; rfl)
  generalize (partsZ x y).1 = a at *
  generalize (partsZ x y).2.1 = b at *
  have h1 := Int.tmod_lt_of_pos q (show (0:Int) < 4 by decide)
  have h2 := Int.lt_tmod_of_pos q (show (0:Int) < 4 by decide)
  have e := tmod_rest q 4 (by decide)
  have w : IntKind.i64.wrap (q.tmod 4 + 4) = q.tmod 4 + 4 := wrap_i64 (by omega) (by omega)
  have hq : q % 4 = ((quarters q : Nat) : Int) := by unfold quarters; omega
  have hq4 : quarters q < 4 := by unfold quarters; omega
  simp (maxSteps := 1000000) (disch := first | assumption | omega | rfl | decide | simp only [fitsR, Bool.and_self]) [↓rules, rules, ↓rulesDp, rulesDq, lit_u64, Int.ofNat_inj, stops, q_int64, q_int, q_bool, q_complex128, bin_rem, w, e]
  rw [hq]
  generalize quarters q = k at *
  refine rwp_loop (fun j l g' n' => ∃ i : Nat, j = k - i ∧ i ≤ k ∧ g' = g ∧ n' = n ∧ l = [(5, .int .i64 (turnI i (a, b)).1), (6, .int .i64 (turnI i (a, b)).2), (19, .int .i64 k), (20, .int .i64 i)]) ?_ (k := k) ?_
  · rintro j l g' n' ⟨i, rfl, hi, rfl, rfl, rfl⟩
    have hin := turn_in (k := i) (a := a) (b := b) (decide_eq_true i1.1) (decide_eq_true i1.2)
    have n1 := of_decide_eq_true hin.1
    have n2 := of_decide_eq_true hin.2
    have hs := turn_succ i (a, b)
    generalize hz : turnI i (a, b) = z at *
    simp (maxSteps := 1000000) (disch := first | assumption | omega | rfl | decide | simp only [fitsR, Bool.and_self]) [↓rules, rules, ↓rulesDp, rulesDq, lit_u64, Int.ofNat_inj, stops, rc_gauss_Turnl0, q_int64, q_int, q_bool]
    refine rcond_dec (fun hlt => ?_) (fun hlt => ?_)
    · have w1 : IntKind.i64.wrap (-z.2) = -z.2 := wrap_i64 (by omega) (by omega)
      have w2 : IntKind.i64.wrap ((i : Int) + 1) = (i : Int) + 1 := wrap_i64 (by omega) (by omega)
      simp (maxSteps := 1000000) (disch := first | assumption | omega | rfl | decide | simp only [fitsR, Bool.and_self]) [↓rules, rules, ↓rulesDp, rulesDq, lit_u64, Int.ofNat_inj, stops, q_int64, q_int, q_bool, w1, w2]
      refine ⟨k - (i + 1), by omega, i + 1, rfl, by omega, ?_⟩
      simp [hs]
    · have hik : i = k := by omega
      simp (maxSteps := 1000000) (disch := first | assumption | omega | rfl | decide | simp only [fitsR, Bool.and_self]) [↓rules, rules, ↓rulesDp, rulesDq, lit_u64, Int.ofNat_inj, stops, q_int64, q_int, q_bool]
      refine rcall_quiet rfl (gauss_Of _ _ _ _) ?_
      have ho : ofZ z.1 z.2 = (nearF z.1, nearF z.2, true) := by unfold ofZ; rw [if_pos hin]
      rw [ho]
      simp (maxSteps := 1000000) (disch := first | assumption | omega | rfl | decide | simp only [fitsR, Bool.and_self]) [↓rules, rules, ↓rulesDp, rulesDq, lit_u64, Int.ofNat_inj, stops, q_complex128, q_bool]
      refine done_q hdom (Kept.refl hdom) rfl ?_
      rw [← hik, ← hz]; rfl
  · exact ⟨0, by simp, by simp, rfl, rfl, by rfl⟩
theorem turnZ_ok {x y : Nat} {q : Int} : okX (turnZ x y q).1 ∧ okX (turnZ x y q).2 := by
  have i1 := partsZ_in x y
  unfold turnZ
  split
  · have hin := turn_in (k := quarters q) (a := (partsZ x y).1) (b := (partsZ x y).2.1) (decide_eq_true i1.1) (decide_eq_true i1.2)
    have n1 := of_decide_eq_true hin.1
    have n2 := of_decide_eq_true hin.2
    exact ⟨near_lt _ (by omega), near_lt _ (by omega)⟩
  · exact ⟨by decide, by decide⟩
theorem turnZ_near {a b : Int} (ha : inZ a = true) (hb : inZ b = true) (q : Int) : turnZ (nearF a) (nearF b) q = (nearF (turnI (quarters q) (a, b)).1, nearF (turnI (quarters q) (a, b)).2) := by
  unfold turnZ
  rw [partsZ_near ha hb, if_pos rfl]
theorem conv16 (w : BitVec 64) : IntKind.u16.wrap (uI w) = ((w.toNat % 65536 : Nat) : Int) := by
  simp only [IntKind.wrap, IntKind.bits, IntKind.signed, uI]
  simp
theorem p16_0 (w : BitVec 64) : ((w.toNat % 65536 : Nat) : Int) = p16 w 0 := by unfold p16; simp
theorem p16_k (w : BitVec 64) (k m : Nat) (h : m = 16 * k) : (((w >>> m).toNat % 65536 : Nat) : Int) = p16 w k := by
  subst h
  unfold p16
  rw [BitVec.toNat_ushiftRight, Nat.shiftRight_eq_div_pow]
theorem gauss_Spin {va : Value} {ws : List (BitVec 64)} (hl : ws.length < 4611686018427387904) (g : AMem) (n : Nat) (hv : rdW g va ws) : FnC Try.prog f_gauss_Spin [va] g n (fun _ => False) (cv (nearF (spinI (0, 0) ws).1) (nearF (spinI (0, 0) ws).2)) g n := by
  refine fnC_of_rwp t_gauss_Spin hm rfl fun hdom => ?_
  obtain ⟨a, e', hva⟩ := hv.form
  have hspin := fun k => spin_in (ws.take k) (0, 0) ⟨by decide, by decide⟩ ⟨by decide, by decide⟩
  simp (maxSteps := 1000000) (disch := first | assumption | omega | rfl | decide | simp only [fitsR, Bool.and_self]) [↓rules, rules, ↓rulesDp, rulesDq, lit_u64, Int.ofNat_inj, stops, rc_gauss_Spin, q_int64, q_int, q_bool, q_complex128, q_S_uint64, hva]
  rw [← hva]
  refine rwp_loop (fun k l g' n' => ∃ i, k = ws.length - i ∧ i ≤ ws.length ∧ g' = g ∧ n' = n ∧ l = [(3, cv (nearF (spinI (0, 0) (ws.take i)).1) (nearF (spinI (0, 0) (ws.take i)).2)), (9, va), (10, .int .i64 ws.length), (11, .int .i64 i)]) ?_ (k := ws.length) ?_
  · rintro j l g' n' ⟨i, rfl, hi, rfl, rfl, rfl⟩
    have hs := hspin i
    simp (maxSteps := 1000000) (disch := first | assumption | omega | rfl | decide | simp only [fitsR, Bool.and_self]) [↓rules, rules, ↓rulesDp, rulesDq, lit_u64, Int.ofNat_inj, stops, rc_gauss_Spinl0, q_int, q_bool]
    refine rcond_dec (fun hlt => ?_) (fun hlt => ?_)
    · have hlt : i < ws.length := by omega
      have htake : spinI (0, 0) (ws.take (i + 1)) = stepI (spinI (0, 0) (ws.take i)) ws[i] := by rw [List.take_add_one, List.getElem?_eq_getElem hlt]; exact spin_snoc _ _ _
      have hs' := hspin (i + 1)
      rw [htake] at hs'
      obtain ⟨b1, o1, h1, _, h2⟩ := hv.one hlt
      have e1 := h2 g' (Ext.refl _) Try.prog _ ta_uint64
      generalize hz : spinI (0, 0) (ws.take i) = z at *
      generalize ws[i] = w at *
      have n1 := near_lt z.1 (by omega)
      have n2 := near_lt z.2 (by omega)
      have i1 : inZ z.1 = true := decide_eq_true (by omega)
      have i2 : inZ z.2 = true := decide_eq_true (by omega)
      simp (maxSteps := 1000000) (disch := first | assumption | omega | rfl | decide | simp only [fitsR, Bool.and_self]) [↓rules, rules, ↓rulesDp, rulesDq, lit_u64, Int.ofNat_inj, stops, h1, q_S_uint64, q_uint64, q_int, q_int64, q_bool, q_complex128, e1, hlt]
      refine rcall_quiet rfl (gauss_Turn n1 n2 _ _ _) ?_
      rw [turnZ_near i1 i2, show quarters 1 = 1 from rfl]
      simp only [turnI]
      simp (maxSteps := 1000000) (disch := first | assumption | omega | rfl | decide | simp only [fitsR, Bool.and_self]) [↓rules, rules, ↓rulesDp, rulesDq, lit_u64, Int.ofNat_inj, stops, q_int64, q_bool, q_complex128]
      refine rcall_quiet rfl (gauss_Parts (near_lt _ (by omega)) (near_lt _ (by omega)) _ _) ?_
      rw [partsZ_near (a := -z.2) (b := z.1) (decide_eq_true (by omega)) i1]
      have p0 := p16_in w 0; have p1 := p16_in w 1; have p2 := p16_in w 2; have p3 := p16_in w 3
      have c0 : IntKind.u16.wrap (uI w) = p16 w 0 := by rw [conv16, p16_0]
      have c1 : IntKind.u16.wrap (uI (w >>> 16)) = p16 w 1 := by rw [conv16, p16_k w 1 16 rfl]
      have c2 : IntKind.u16.wrap (uI (w >>> 32)) = p16 w 2 := by rw [conv16, p16_k w 2 32 rfl]
      have c3 : IntKind.u16.wrap (uI (w >>> 48)) = p16 w 3 := by rw [conv16, p16_k w 3 48 rfl]
      have w0 : ∀ k, IntKind.i64.wrap (p16 w k) = p16 w k := fun k => wrap_i64 (by have := p16_in w k; omega) (by have := p16_in w k; omega)
      have s1 : IntKind.i64.wrap (p16 w 0 - p16 w 2) = p16 w 0 - p16 w 2 := wrap_i64 (by omega) (by omega)
      have s2 : IntKind.i64.wrap (p16 w 1 - p16 w 3) = p16 w 1 - p16 w 3 := wrap_i64 (by omega) (by omega)
      have s3 : IntKind.i64.wrap (-z.2 + (p16 w 0 - p16 w 2)) = -z.2 + (p16 w 0 - p16 w 2) := wrap_i64 (by omega) (by omega)
      have s4 : IntKind.i64.wrap (z.1 + (p16 w 1 - p16 w 3)) = z.1 + (p16 w 1 - p16 w 3) := wrap_i64 (by omega) (by omega)
      simp (maxSteps := 1000000) (disch := first | assumption | omega | rfl | decide | simp only [fitsR, Bool.and_self]) [↓rules, rules, ↓rulesDp, rulesDq, lit_u64, Int.ofNat_inj, stops, q_int64, q_bool, q_complex128, q_uint64, q_uint16, conv_of_u64 tu_uint64 tu_uint16, conv_int tu_uint16 tu_int64, c0, c1, c2, c3, w0, s1, s2, s3, s4]
      refine rcall_quiet rfl (gauss_rest _ _ _) ?_
      simp (maxSteps := 1000000) (disch := first | assumption | omega | rfl | decide | simp only [fitsR, Bool.and_self]) [↓rules, rules, ↓rulesDp, rulesDq, lit_u64, Int.ofNat_inj, stops, q_int64, q_bool, q_complex128]
      refine rcall_quiet rfl (gauss_rest _ _ _) ?_
      simp (maxSteps := 1000000) (disch := first | assumption | omega | rfl | decide | simp only [fitsR, Bool.and_self]) [↓rules, rules, ↓rulesDp, rulesDq, lit_u64, Int.ofNat_inj, stops, q_int64, q_bool, q_complex128]
      refine rcall_quiet rfl (gauss_Of _ _ _ _) ?_
      have r1 := restI_in (-z.2 + (p16 w 0 - p16 w 2))
      have r2 := restI_in (z.1 + (p16 w 1 - p16 w 3))
      have ho : ofZ (restI (-z.2 + (p16 w 0 - p16 w 2))) (restI (z.1 + (p16 w 1 - p16 w 3))) = (nearF (restI (-z.2 + (p16 w 0 - p16 w 2))), nearF (restI (z.1 + (p16 w 1 - p16 w 3))), true) := by
        unfold ofZ
        rw [if_pos ⟨decide_eq_true (by omega), decide_eq_true (by omega)⟩]
      rw [ho]
      have w2 : IntKind.i64.wrap ((i : Int) + 1) = (i : Int) + 1 := wrap_i64 (by omega) (by omega)
      simp (maxSteps := 1000000) (disch := first | assumption | omega | rfl | decide | simp only [fitsR, Bool.and_self]) [↓rules, rules, ↓rulesDp, rulesDq, lit_u64, Int.ofNat_inj, stops, q_int64, q_int, q_bool, q_complex128, w2]
      refine ⟨ws.length - (i + 1), by omega, i + 1, rfl, by omega, ?_⟩
      exact ⟨by rw [htake]; exact ⟨rfl, rfl⟩, by omega⟩
    · have hik : i = ws.length := by omega
      simp (maxSteps := 1000000) (disch := first | assumption | omega | rfl | decide | simp only [fitsR, Bool.and_self]) [↓rules, rules, ↓rulesDp, rulesDq, lit_u64, Int.ofNat_inj, stops, q_complex128]
      refine done_q hdom (Kept.refl hdom) rfl ?_
      rw [hik, List.take_length]; rfl
  · exact ⟨0, by simp, by simp, rfl, rfl, by rfl⟩
def wordI (a b : Int) : BitVec 64 := BitVec.ofInt 64 b <<< 32 ||| BitVec.ofInt 64 a
def in32 (a : Int) : Bool := decide (0 ≤ a ∧ a ≤ 4294967295)
def wordZ (x y : Nat) : BitVec 64 × Bool := if (partsZ x y).2.2 = true ∧ in32 (partsZ x y).1 = true ∧ in32 (partsZ x y).2.1 = true then (wordI (partsZ x y).1 (partsZ x y).2.1, true) else (0#64, false)
theorem gauss_Word {x y : Nat} (hx : okX x) (hy : okX y) (g : AMem) (n : Nat) : FnC Try.prog f_gauss_Word [cv x y] g n (fun _ => False) (.tuple #[U (wordZ x y).1, .bool (wordZ x y).2]) g n := by
  refine fnC_of_rwp t_gauss_Word hm rfl fun hdom => ?_
  simp (maxSteps := 1000000) (disch := first | assumption | omega | rfl | decide | simp only [fitsR, Bool.and_self]) [↓rules, rules, ↓rulesDp, rulesDq, lit_u64, Int.ofNat_inj, stops, rc_gauss_Word, q_int64, q_uint64, q_bool, q_complex128]
  refine rcall_quiet rfl (gauss_Parts hx hy _ _) ?_
  unfold wordZ
  cases c1 : (partsZ x y).2.2
  · simp (maxSteps := 1000000) (disch := first | assumption | omega | rfl | decide | simp only [fitsR, Bool.and_self]) [↓rules, rules, ↓rulesDp, rulesDq, lit_u64, Int.ofNat_inj, stops, q_int64, q_uint64, q_bool, q_complex128]
    refine done_q hdom (Kept.refl hdom) rfl ?_
    first | rfl | (simp; rfl)
  generalize (partsZ x y).1 = a at *
  generalize (partsZ x y).2.1 = b at *
  unfold in32
  by_cases c2 : a < 0
  · simp (maxSteps := 1000000) (disch := first | assumption | omega | rfl | decide | simp only [fitsR, Bool.and_self]) [↓rules, rules, ↓rulesDp, rulesDq, lit_u64, Int.ofNat_inj, stops, q_int64, q_uint64, q_bool, q_complex128, c2]
    refine done_q hdom (Kept.refl hdom) rfl ?_
    rw [if_neg (by simp; omega)]; rfl
  by_cases c3 : 4294967295 < a
  · simp (maxSteps := 1000000) (disch := first | assumption | omega | rfl | decide | simp only [fitsR, Bool.and_self]) [↓rules, rules, ↓rulesDp, rulesDq, lit_u64, Int.ofNat_inj, stops, q_int64, q_uint64, q_bool, q_complex128, c2, c3]
    refine done_q hdom (Kept.refl hdom) rfl ?_
    rw [if_neg (by simp; omega)]; rfl
  by_cases c4 : b < 0
  · simp (maxSteps := 1000000) (disch := first | assumption | omega | rfl | decide | simp only [fitsR, Bool.and_self]) [↓rules, rules, ↓rulesDp, rulesDq, lit_u64, Int.ofNat_inj, stops, q_int64, q_uint64, q_bool, q_complex128, c2, c3, c4]
    refine done_q hdom (Kept.refl hdom) rfl ?_
    rw [if_neg (by simp; omega)]; rfl
  by_cases c5 : 4294967295 < b
  · simp (maxSteps := 1000000) (disch := first | assumption | omega | rfl | decide | simp only [fitsR, Bool.and_self]) [↓rules, rules, ↓rulesDp, rulesDq, lit_u64, Int.ofNat_inj, stops, q_int64, q_uint64, q_bool, q_complex128, c2, c3, c4, c5]
    refine done_q hdom (Kept.refl hdom) rfl ?_
    rw [if_neg (by simp; omega)]; rfl
  simp (maxSteps := 1000000) (disch := first | assumption | omega | rfl | decide | simp only [fitsR, Bool.and_self]) [↓rules, rules, ↓rulesDp, rulesDq, lit_u64, Int.ofNat_inj, stops, q_int64, q_uint64, q_bool, q_complex128, c2, c3, c4, c5, conv_to_u64 tu_int64 tu_uint64]
  refine done_q hdom (Kept.refl hdom) rfl ?_
  have hc : (0 ≤ a ∧ a ≤ 4294967295) ∧ 0 ≤ b ∧ b ≤ 4294967295 := by omega
  first | (rw [if_pos hc]; rfl) | (trace_state; simp [hc]; rfl)
end Go.Proofs.Ytcndbfekcmalmaa.F6
