/- Contracts of functions: what each one returns, and what it leaves. No statement is proved here. -/
import Derived.Test.YtafpgojoemcgnaaF24
set_option linter.unusedVariables false
set_option linter.unusedSimpArgs false
namespace Go.Proofs.Ytafpgojoemcgnaa.F24
open Go Go.Proofs Go.Proofs.YtafpgojoemcgnaaAbs
set_option maxRecDepth 100000
abbrev rdW (g : AMem) (v : Value) (ws : List (BitVec 64)) : Prop := Rd g 1 (fun w => [U w]) v ws
abbrev rdI (g : AMem) (v : Value) (xs : List Int) : Prop := Rd g 1 (fun x => [.int .i64 x]) v xs
end Go.Proofs.Ytafpgojoemcgnaa.F24

namespace Go.Proofs.Ytafpgojoemcgnaa.F24
open Go Go.Proofs Go.Proofs.YtafpgojoemcgnaaAbs
set_option maxRecDepth 100000
/-- A slice that is read, as a row. -/
theorem rd_all {α : Type} {enc : α → List Value} {e : Nat} {g : AMem} {v : Value} {xs : List α} (h : Rd g e enc v xs) (h0 : 0 < xs.length) : ∃ b o cs r, v = .slice (some ⟨b, o, none⟩) xs.length e ∧ g b = some (.row cs r) ∧ o + xs.length * e ≤ cs.length ∧ xs.flatMap enc = (cs.drop o).take (xs.length * e) := aRead_row h h0
/-- Its elements. -/
theorem rd_elems {α : Type} {f : α → Value} {g : AMem} {v : Value} {xs : List α} (h : Rd g 1 (fun x => [f x]) v xs) (h0 : 0 < xs.length) :
    ∃ b o, v = .slice (some ⟨b, o, none⟩) xs.length 1 ∧ g b ≠ none ∧ ∀ (i : Nat) (hi : i < xs.length) (g2 : AMem), Ext g g2 → ∀ (P : Program) (t : TypeId), tagg P t = some false → aLoad P g2 t (.pointer (some ⟨b, o + i, none⟩)) = some (f xs[i]) := by
  obtain ⟨b, o, h1, h2, _⟩ := h.one h0
  refine ⟨b, o, h1, h2, fun i hi g2 hx P t ht => ?_⟩
  obtain ⟨b', o', h3, _, h4⟩ := h.one hi
  rw [h1] at h3
  simp only [Value.slice.injEq, Option.some.injEq, Addr.mk.injEq] at h3
  obtain ⟨⟨rfl, rfl, _⟩, _⟩ := h3
  exact h4 g2 hx P t ht
theorem rd_nths {α : Type} {f : α → Value} {g : AMem} {v : Value} {xs : List α} (h : Rd g 1 (fun x => [f x]) v xs) (h0 : 0 < xs.length) :
    ∃ b o cs r, v = .slice (some ⟨b, o, none⟩) xs.length 1 ∧ g b = some (.row cs r) ∧ ∀ (i : Nat) (hi : i < xs.length), nth cs (o + i) = some (f xs[i]) := by
  obtain ⟨b, o, cs, r, h1, h2, h3, h4⟩ := rd_all h h0
  refine ⟨b, o, cs, r, h1, h2, fun i hi => ?_⟩
  rw [flatMap_one, Nat.mul_one] at h4
  have : (xs.map f)[i]? = some (f xs[i]) := by simp [hi]
  rw [h4, List.getElem?_take, if_pos hi, List.getElem?_drop] at this
  rw [← nth_eq]; exact this
/-- A part of it. -/
theorem rd_part {α : Type} {enc : α → List Value} {e : Nat} (he : ∀ x, (enc x).length = e) {g : AMem} {b o n : Nat} {xs : List α} (h : Rd g e enc (.slice (some ⟨b, o, none⟩) n e) xs) (k m : Nat) (hm : k + m ≤ xs.length) : Rd g e enc (.slice (some ⟨b, o + k * e, none⟩) m e) ((xs.drop k).take m) := by
  have hn : n = xs.length := by
    obtain ⟨a, e', h1⟩ := h.form
    simp only [Value.slice.injEq] at h1
    exact h1.2.1
  have hl : ((xs.drop k).take m).length = m := by rw [List.length_take, List.length_drop]; omega
  by_cases h0 : m = 0
  · subst h0
    simp [Rd, aRead]
  obtain ⟨b', o', cs, r, h1, h2, h3, h4⟩ := rd_all h (by omega)
  simp only [Value.slice.injEq, Option.some.injEq, Addr.mk.injEq] at h1
  obtain ⟨⟨rfl, rfl, _⟩, _⟩ := h1
  have hke : k * e + m * e ≤ xs.length * e := by rw [← Nat.add_mul]; exact Nat.mul_le_mul_right _ hm
  refine Rd.of_row he h2 (by rw [hl]; omega) ?_ hl.symm
  rw [hl]
  have e1 : xs.flatMap enc = (xs.take k).flatMap enc ++ (((xs.drop k).take m).flatMap enc ++ ((xs.drop k).drop m).flatMap enc) := by
    rw [← List.flatMap_append, List.take_append_drop, ← List.flatMap_append, List.take_append_drop]
  have l1 : ((xs.take k).flatMap enc).length = k * e := by rw [flat_length he, List.length_take, Nat.min_eq_left (by omega)]
  have l2 : (((xs.drop k).take m).flatMap enc).length = m * e := by rw [flat_length he, hl]
  have e2 : ((xs.flatMap enc).drop (k * e)).take (m * e) = ((xs.drop k).take m).flatMap enc := by
    rw [e1, ← l1, List.drop_left, ← l2, List.take_left]
  rw [← e2, h4, List.drop_take, List.drop_drop, List.take_take, Nat.min_eq_left (by omega)]
theorem rd_read {α : Type} {enc : α → List Value} {e : Nat} {g : AMem} {v : Value} {xs : List α} (h : Rd g e enc v xs) : aRead g e v = some (xs.length, xs.flatMap enc) := h
set_option maxHeartbeats 2000000
end Go.Proofs.Ytafpgojoemcgnaa.F24

namespace Go.Proofs.Ytafpgojoemcgnaa.F24
open Go Go.Proofs Go.Proofs.YtafpgojoemcgnaaAbs
set_option maxRecDepth 100000
set_option maxHeartbeats 2000000
theorem words (va vb : Value) (xs ys : List (BitVec 64)) (g : AMem) (n : Nat) (hl : xs.length < 4611686018427387904) (hl' : ys.length < 4611686018427387904) (ha : rdW g va xs) (hb : rdW g vb ys) : FnC Try.prog f_reevelaw24_words [va, vb] g n (fun _ => False) (.bool (decide (xs = ys))) g n := by
  refine fnC_of_rwp t_reevelaw24_words hm rfl fun hdom => ?_
  obtain ⟨a, ea, hva⟩ := ha.form
  obtain ⟨b, eb, hvb⟩ := hb.form
  by_cases hne : xs.length = ys.length
  case neg =>
    simp (maxSteps := 1000000) (disch := first | assumption | omega | rfl | decide) [↓rules, rules, lit_u64, aEval_U, splice_nil, splice_zero, splice_step, gset_gset, Int.ofNat_inj, U_junk, U_cells, U_cellOk, ub_and, ub_or, ub_xor, ub_andNot, ub_add, ub_sub, ub_mul, ub_shl, ub_shr, ub_shl', ub_shr', ub_eql, ub_neq, ub_lss, ub_leq, ub_gtr, ub_geq, rc_reevelaw24_words, hva, hvb, tu_S_uint64, hne]
    refine done_q hdom (Kept.refl hdom) ?_ ?_; · rfl
    rw [show decide (xs = ys) = false by simp only [decide_eq_false_iff_not]; intro h; exact hne (by rw [h])]; rfl
  simp (maxSteps := 1000000) (disch := first | assumption | omega | rfl | decide) [↓rules, rules, lit_u64, aEval_U, splice_nil, splice_zero, splice_step, gset_gset, Int.ofNat_inj, U_junk, U_cells, U_cellOk, ub_and, ub_or, ub_xor, ub_andNot, ub_add, ub_sub, ub_mul, ub_shl, ub_shr, ub_shl', ub_shr', ub_eql, ub_neq, ub_lss, ub_leq, ub_gtr, ub_geq, rc_reevelaw24_words, hva, hvb, tu_S_uint64, hne]
  rw [← hvb, show Value.slice a ys.length ea = va by rw [hva, hne]]
  refine rwp_loop (fun k l g' n' => ∃ i, k = xs.length - i ∧ i ≤ xs.length ∧ g' = g ∧ n' = n ∧ xs.take i = ys.take i ∧ l = [(0, va), (1, vb), (5, .int .i64 i)]) ?_ (k := xs.length) ?_
  · rintro k l g' n' ⟨i, rfl, hi, rfl, rfl, he, rfl⟩
    simp (maxSteps := 1000000) (disch := first | assumption | omega | rfl | decide) [↓rules, rules, lit_u64, aEval_U, splice_nil, splice_zero, splice_step, gset_gset, Int.ofNat_inj, U_junk, U_cells, U_cellOk, ub_and, ub_or, ub_xor, ub_andNot, ub_add, ub_sub, ub_mul, ub_shl, ub_shr, ub_shl', ub_shr', ub_eql, ub_neq, ub_lss, ub_leq, ub_gtr, ub_geq, rc_reevelaw24_wordsl0, hva, tu_S_uint64]
    refine rcond_dec (fun hlt => ?_) (fun hlt => ?_)
    · have hlt1 : i < xs.length := by omega
      obtain ⟨b1, o1, h1, _, h2⟩ := ha.one hlt1
      obtain ⟨b2, o2, h3, _, h4⟩ := hb.one (show i < ys.length by omega)
      have e1 := h2 g' (Ext.refl _) Try.prog _ ta_uint64
      have e2 := h4 g' (Ext.refl _) Try.prog _ ta_uint64
      rw [← hva]
      have hlt2 : i < ys.length := by omega
      simp (maxSteps := 1000000) (disch := first | assumption | omega | rfl | decide) [↓rules, rules, lit_u64, aEval_U, splice_nil, splice_zero, splice_step, gset_gset, Int.ofNat_inj, U_junk, U_cells, U_cellOk, ub_and, ub_or, ub_xor, ub_andNot, ub_add, ub_sub, ub_mul, ub_shl, ub_shr, ub_shl', ub_shr', ub_eql, ub_neq, ub_lss, ub_leq, ub_gtr, ub_geq, h1, h3, tu_S_uint64, ts_uint64, e1, e2, hne, hlt2]
      have htake : ∀ (zs : List (BitVec 64)) (h : i < zs.length), zs.take (i + 1) = zs.take i ++ [zs[i]] := fun zs h => by rw [List.take_add_one, List.getElem?_eq_getElem h]; rfl
      refine rcond_bool (fun c => ?_) (fun c => ?_)
      · refine done_q hdom (Kept.refl hdom) ?_ ?_; · rfl
        have c : xs[i] ≠ ys[i] := by simpa using c
        rw [show decide (xs = ys) = false by simp only [decide_eq_false_iff_not]; intro h; subst h; exact c rfl]; rfl
      · have c : xs[i] = ys[i] := by simpa using c
        simp (maxSteps := 1000000) (disch := first | assumption | omega | rfl | decide) [↓rules, rules, lit_u64, aEval_U, splice_nil, splice_zero, splice_step, gset_gset, Int.ofNat_inj, U_junk, U_cells, U_cellOk, ub_and, ub_or, ub_xor, ub_andNot, ub_add, ub_sub, ub_mul, ub_shl, ub_shr, ub_shl', ub_shr', ub_eql, ub_neq, ub_lss, ub_leq, ub_gtr, ub_geq, wrap_i64]
        refine ⟨ys.length - (i + 1), by omega, i + 1, rfl, by omega, ?_⟩
        refine ⟨by rw [htake xs hlt1, htake ys hlt2, he, c], ?_⟩
        simp
    · refine done_q hdom (Kept.refl hdom) ?_ ?_; · rfl
      have e1 : i = xs.length := by omega
      have e2 : i = ys.length := by omega
      rw [e1, List.take_length, ← e1, e2, List.take_length] at he
      rw [show decide (xs = ys) = true by simpa using he]; rfl
  · exact ⟨0, by simp, by simp, rfl, rfl, by simp, by rfl⟩

end Go.Proofs.Ytafpgojoemcgnaa.F24

namespace Go.Proofs.Ytafpgojoemcgnaa.F24
open Go Go.Proofs Go.Proofs.YtafpgojoemcgnaaAbs
set_option maxRecDepth 100000
abbrev gv (a b c : Int) : Value := .agg #[.int .i64 a, .int .i64 b, .int .i64 c]
def goodG (a b c : Int) : Bool := decide (1 ≤ a ∧ a ≤ 4 ∧ 8 * a ≤ b ∧ b ≤ 96 ∧ b % 8 = 0 ∧ a + 2 ≤ c ∧ c ≤ 48)
theorem goodG_iff {a b c : Int} : goodG a b c = true ↔ 1 ≤ a ∧ a ≤ 4 ∧ 8 * a ≤ b ∧ b ≤ 96 ∧ b % 8 = 0 ∧ a + 2 ≤ c ∧ c ≤ 48 := by unfold goodG; simp
theorem goodG_no {a b c : Int} (h : ¬ (1 ≤ a ∧ a ≤ 4 ∧ 8 * a ≤ b ∧ b ≤ 96 ∧ b % 8 = 0 ∧ a + 2 ≤ c ∧ c ≤ 48)) : goodG a b c = false := by unfold goodG; simpa using h
theorem inG (x lo hi : Int) (g : AMem) (n : Nat) : FnC Try.prog f_geo_in [.int .i64 x, .int .i64 lo, .int .i64 hi] g n (fun _ => False) (.bool (decide (lo ≤ x ∧ x ≤ hi))) g n := by
  refine fnC_of_rwp t_geo_in hm rfl fun hdom => ?_
  by_cases c : lo ≤ x
  · simp (maxSteps := 1000000) (disch := first | assumption | omega | rfl | decide) [↓rules, rules, lit_u64, aEval_U, splice_nil, splice_zero, splice_step, gset_gset, Int.ofNat_inj, U_junk, U_cells, U_cellOk, ub_and, ub_or, ub_xor, ub_andNot, ub_add, ub_sub, ub_mul, ub_shl, ub_shr, ub_shl', ub_shr', ub_eql, ub_neq, ub_lss, ub_leq, ub_gtr, ub_geq, rc_geo_in, c]
    refine done_q hdom (Kept.refl hdom) ?_ ?_ <;> rfl
  · simp (maxSteps := 1000000) (disch := first | assumption | omega | rfl | decide) [↓rules, rules, lit_u64, aEval_U, splice_nil, splice_zero, splice_step, gset_gset, Int.ofNat_inj, U_junk, U_cells, U_cellOk, ub_and, ub_or, ub_xor, ub_andNot, ub_add, ub_sub, ub_mul, ub_shl, ub_shr, ub_shl', ub_shr', ub_eql, ub_neq, ub_lss, ub_leq, ub_gtr, ub_geq, rc_geo_in, c]
    refine done_q hdom (Kept.refl hdom) ?_ ?_ <;> rfl
theorem GoodG (a b c : Int) (g : AMem) (n : Nat) : FnC Try.prog f_geo_Good [gv a b c] g n (fun _ => False) (.bool (goodG a b c)) g n := by
  refine fnC_of_rwp t_geo_Good hm rfl fun hdom => ?_
  have kn := (Kept.refl hdom).new (.row [.int .i64 a, .int .i64 b, .int .i64 c] true)
  simp (maxSteps := 1000000) (disch := first | assumption | omega | rfl | decide) [↓rules, rules, lit_u64, aEval_U, splice_nil, splice_zero, splice_step, gset_gset, Int.ofNat_inj, U_junk, U_cells, U_cellOk, ub_and, ub_or, ub_xor, ub_andNot, ub_add, ub_sub, ub_mul, ub_shl, ub_shr, ub_shl', ub_shr', ub_eql, ub_neq, ub_lss, ub_leq, ub_gtr, ub_geq, rc_geo_Good, tf_geo_Geo_Threads, tf_geo_Geo_Slots, tf_geo_Geo_Things, ta_int, ts_int]
  refine rcall_quiet rfl (inG _ _ _ _ _) ?_
  by_cases c1 : 1 ≤ a ∧ a ≤ 4
  case neg =>
    simp (maxSteps := 1000000) (disch := first | assumption | omega | rfl | decide) [↓rules, rules, lit_u64, aEval_U, splice_nil, splice_zero, splice_step, gset_gset, Int.ofNat_inj, U_junk, U_cells, U_cellOk, ub_and, ub_or, ub_xor, ub_andNot, ub_add, ub_sub, ub_mul, ub_shl, ub_shr, ub_shl', ub_shr', ub_eql, ub_neq, ub_lss, ub_leq, ub_gtr, ub_geq, c1]
    refine done_q hdom kn ?_ ?_; · rfl
    rw [goodG_no (by omega)]; rfl
  have e1 : IntKind.i64.wrap (8 * a) = 8 * a := wrap_i64 (by omega) (by omega)
  have e2 : IntKind.i64.wrap (a + 2) = a + 2 := wrap_i64 (by omega) (by omega)
  simp (maxSteps := 1000000) (disch := first | assumption | omega | rfl | decide) [↓rules, rules, lit_u64, aEval_U, splice_nil, splice_zero, splice_step, gset_gset, Int.ofNat_inj, U_junk, U_cells, U_cellOk, ub_and, ub_or, ub_xor, ub_andNot, ub_add, ub_sub, ub_mul, ub_shl, ub_shr, ub_shl', ub_shr', ub_eql, ub_neq, ub_lss, ub_leq, ub_gtr, ub_geq, c1, tf_geo_Geo_Threads, tf_geo_Geo_Slots, tf_geo_Geo_Things, ta_int, ts_int, e1]
  refine rcall_quiet rfl (inG _ _ _ _ _) ?_
  by_cases c2 : 8 * a ≤ b ∧ b ≤ 96
  case neg =>
    simp (maxSteps := 1000000) (disch := first | assumption | omega | rfl | decide) [↓rules, rules, lit_u64, aEval_U, splice_nil, splice_zero, splice_step, gset_gset, Int.ofNat_inj, U_junk, U_cells, U_cellOk, ub_and, ub_or, ub_xor, ub_andNot, ub_add, ub_sub, ub_mul, ub_shl, ub_shr, ub_shl', ub_shr', ub_eql, ub_neq, ub_lss, ub_leq, ub_gtr, ub_geq, c2]
    refine done_q hdom kn ?_ ?_; · rfl
    rw [goodG_no (by omega)]; rfl
  have e3 : b.tmod 8 = b % 8 := Int.tmod_eq_emod_of_nonneg (by omega)
  by_cases c3 : b % 8 = 0
  case neg =>
    simp (maxSteps := 1000000) (disch := first | assumption | omega | rfl | decide) [↓rules, rules, lit_u64, aEval_U, splice_nil, splice_zero, splice_step, gset_gset, Int.ofNat_inj, U_junk, U_cells, U_cellOk, ub_and, ub_or, ub_xor, ub_andNot, ub_add, ub_sub, ub_mul, ub_shl, ub_shr, ub_shl', ub_shr', ub_eql, ub_neq, ub_lss, ub_leq, ub_gtr, ub_geq, c2, tf_geo_Geo_Threads, tf_geo_Geo_Slots, tf_geo_Geo_Things, ta_int, ts_int, bin_rem, e3, c3]
    refine done_q hdom kn ?_ ?_; · rfl
    rw [goodG_no (by omega)]; rfl
  simp (maxSteps := 1000000) (disch := first | assumption | omega | rfl | decide) [↓rules, rules, lit_u64, aEval_U, splice_nil, splice_zero, splice_step, gset_gset, Int.ofNat_inj, U_junk, U_cells, U_cellOk, ub_and, ub_or, ub_xor, ub_andNot, ub_add, ub_sub, ub_mul, ub_shl, ub_shr, ub_shl', ub_shr', ub_eql, ub_neq, ub_lss, ub_leq, ub_gtr, ub_geq, c2, tf_geo_Geo_Threads, tf_geo_Geo_Slots, tf_geo_Geo_Things, ta_int, ts_int, bin_rem, e3, c3, e2]
  refine rcall_quiet rfl (inG _ _ _ _ _) ?_
  simp (maxSteps := 1000000) (disch := first | assumption | omega | rfl | decide) [↓rules, rules, lit_u64, aEval_U, splice_nil, splice_zero, splice_step, gset_gset, Int.ofNat_inj, U_junk, U_cells, U_cellOk, ub_and, ub_or, ub_xor, ub_andNot, ub_add, ub_sub, ub_mul, ub_shl, ub_shr, ub_shl', ub_shr', ub_eql, ub_neq, ub_lss, ub_leq, ub_gtr, ub_geq]
  refine done_q hdom kn ?_ ?_; · rfl
  have : goodG a b c = decide (a + 2 ≤ c ∧ c ≤ 48) := by unfold goodG; rw [decide_eq_decide]; omega
  rw [this, Bool.decide_and]; rfl
theorem long (g : AMem) (n : Nat) : FnC Try.prog f_reeveref1_long [] g n (fun _ => False) (.int .i64 1208) g n := by
  refine fnC_of_rwp t_reeveref1_long hm rfl fun hdom => ?_
  simp (maxSteps := 1000000) (disch := first | assumption | omega | rfl | decide) [↓rules, rules, lit_u64, aEval_U, splice_nil, splice_zero, splice_step, gset_gset, Int.ofNat_inj, U_junk, U_cells, U_cellOk, ub_and, ub_or, ub_xor, ub_andNot, ub_add, ub_sub, ub_mul, ub_shl, ub_shr, ub_shl', ub_shr', ub_eql, ub_neq, ub_lss, ub_leq, ub_gtr, ub_geq, rc_reeveref1_long]
  refine done_q hdom (Kept.refl hdom) ?_ ?_ <;> rfl
theorem slotsAt (a b c : Int) (ha : 1 ≤ a ∧ a ≤ 4) (g : AMem) (n : Nat) : FnC Try.prog f_geo_slotsAt [gv a b c] g n (fun _ => False) (.int .i64 (16 + a * 1208)) g n := by
  refine fnC_of_rwp t_geo_slotsAt hm rfl fun hdom => ?_
  have kn := (Kept.refl hdom).new (.row [.int .i64 a, .int .i64 b, .int .i64 c] true)
  have e1 : IntKind.i64.wrap (a * 1208) = a * 1208 := wrap_i64 (by omega) (by omega)
  have e2 : IntKind.i64.wrap (16 + a * 1208) = 16 + a * 1208 := wrap_i64 (by omega) (by omega)
  simp (maxSteps := 1000000) (disch := first | assumption | omega | rfl | decide) [↓rules, rules, lit_u64, aEval_U, splice_nil, splice_zero, splice_step, gset_gset, Int.ofNat_inj, U_junk, U_cells, U_cellOk, ub_and, ub_or, ub_xor, ub_andNot, ub_add, ub_sub, ub_mul, ub_shl, ub_shr, ub_shl', ub_shr', ub_eql, ub_neq, ub_lss, ub_leq, ub_gtr, ub_geq, rc_geo_slotsAt, tf_geo_Geo_Threads, tf_geo_Geo_Slots, tf_geo_Geo_Things, ta_int, ts_int, ta_geo_Geo, ts_geo_Geo, e1, e2]
  refine done_q hdom kn ?_ ?_ <;> rfl
theorem slotsR (a b c : Int) (ha : 1 ≤ a ∧ a ≤ 4) (g : AMem) (n : Nat) : FnC Try.prog f_reeveref1_slots [gv a b c] g n (fun _ => False) (.int .i64 (16 + a * 1208)) g n := by
  refine fnC_of_rwp t_reeveref1_slots hm rfl fun hdom => ?_
  have kn := (Kept.refl hdom).new (.row [.int .i64 a, .int .i64 b, .int .i64 c] true)
  have e1 : IntKind.i64.wrap (a * 1208) = a * 1208 := wrap_i64 (by omega) (by omega)
  have e2 : IntKind.i64.wrap (16 + a * 1208) = 16 + a * 1208 := wrap_i64 (by omega) (by omega)
  simp (maxSteps := 1000000) (disch := first | assumption | omega | rfl | decide) [↓rules, rules, lit_u64, aEval_U, splice_nil, splice_zero, splice_step, gset_gset, Int.ofNat_inj, U_junk, U_cells, U_cellOk, ub_and, ub_or, ub_xor, ub_andNot, ub_add, ub_sub, ub_mul, ub_shl, ub_shr, ub_shl', ub_shr', ub_eql, ub_neq, ub_lss, ub_leq, ub_gtr, ub_geq, rc_reeveref1_slots, tf_reeveref1_Geo_Threads, tf_reeveref1_Geo_Slots, tf_reeveref1_Geo_Things, ta_int, ts_int, ta_reeveref1_Geo, ts_reeveref1_Geo]
  refine rcall_quiet rfl (long _ _) ?_
  simp (maxSteps := 1000000) (disch := first | assumption | omega | rfl | decide) [↓rules, rules, lit_u64, aEval_U, splice_nil, splice_zero, splice_step, gset_gset, Int.ofNat_inj, U_junk, U_cells, U_cellOk, ub_and, ub_or, ub_xor, ub_andNot, ub_add, ub_sub, ub_mul, ub_shl, ub_shr, ub_shl', ub_shr', ub_eql, ub_neq, ub_lss, ub_leq, ub_gtr, ub_geq, e1, e2]
  refine done_q hdom kn ?_ ?_ <;> rfl
theorem thingsAt (a b c : Int) (ha : 1 ≤ a ∧ a ≤ 4) (hb : 0 ≤ b ∧ b ≤ 96) (g : AMem) (n : Nat) : FnC Try.prog f_geo_thingsAt [gv a b c] g n (fun _ => False) (.int .i64 (16 + a * 1208 + 2 * b)) g n := by
  refine fnC_of_rwp t_geo_thingsAt hm rfl fun hdom => ?_
  have kn := (Kept.refl hdom).new (.row [.int .i64 a, .int .i64 b, .int .i64 c] true)
  have e1 : IntKind.i64.wrap (2 * b) = 2 * b := wrap_i64 (by omega) (by omega)
  have e2 : IntKind.i64.wrap (16 + a * 1208 + 2 * b) = 16 + a * 1208 + 2 * b := wrap_i64 (by omega) (by omega)
  simp (maxSteps := 1000000) (disch := first | assumption | omega | rfl | decide) [↓rules, rules, lit_u64, aEval_U, splice_nil, splice_zero, splice_step, gset_gset, Int.ofNat_inj, U_junk, U_cells, U_cellOk, ub_and, ub_or, ub_xor, ub_andNot, ub_add, ub_sub, ub_mul, ub_shl, ub_shr, ub_shl', ub_shr', ub_eql, ub_neq, ub_lss, ub_leq, ub_gtr, ub_geq, rc_geo_thingsAt, tf_geo_Geo_Threads, tf_geo_Geo_Slots, tf_geo_Geo_Things, ta_int, ts_int, ta_geo_Geo, ts_geo_Geo]
  refine rcall_quiet rfl (slotsAt a b c ha _ _) ?_
  simp (maxSteps := 1000000) (disch := first | assumption | omega | rfl | decide) [↓rules, rules, lit_u64, aEval_U, splice_nil, splice_zero, splice_step, gset_gset, Int.ofNat_inj, U_junk, U_cells, U_cellOk, ub_and, ub_or, ub_xor, ub_andNot, ub_add, ub_sub, ub_mul, ub_shl, ub_shr, ub_shl', ub_shr', ub_eql, ub_neq, ub_lss, ub_leq, ub_gtr, ub_geq, tf_geo_Geo_Threads, tf_geo_Geo_Slots, tf_geo_Geo_Things, ta_int, ts_int, ta_geo_Geo, ts_geo_Geo, e1, e2]
  refine done_q hdom kn ?_ ?_ <;> rfl
theorem GoodR (a b c : Int) (g : AMem) (n : Nat) : FnC Try.prog f_reeveref1_GoodGeo [gv a b c] g n (fun _ => False) (.bool (goodG a b c)) g n := by
  refine fnC_of_rwp t_reeveref1_GoodGeo hm rfl fun hdom => ?_
  have kn := (Kept.refl hdom).new (.row [.int .i64 a, .int .i64 b, .int .i64 c] true)
  by_cases c1 : 1 ≤ a
  case neg =>
    simp (maxSteps := 1000000) (disch := first | assumption | omega | rfl | decide) [↓rules, rules, lit_u64, aEval_U, splice_nil, splice_zero, splice_step, gset_gset, Int.ofNat_inj, U_junk, U_cells, U_cellOk, ub_and, ub_or, ub_xor, ub_andNot, ub_add, ub_sub, ub_mul, ub_shl, ub_shr, ub_shl', ub_shr', ub_eql, ub_neq, ub_lss, ub_leq, ub_gtr, ub_geq, rc_reeveref1_GoodGeo, tf_reeveref1_Geo_Threads, tf_reeveref1_Geo_Slots, tf_reeveref1_Geo_Things, ta_int, ts_int, ta_reeveref1_Geo, ts_reeveref1_Geo, c1]
    refine done_q hdom kn ?_ ?_; · rfl
    rw [goodG_no (by omega)]; rfl
  by_cases c2 : a ≤ 4
  case neg =>
    simp (maxSteps := 1000000) (disch := first | assumption | omega | rfl | decide) [↓rules, rules, lit_u64, aEval_U, splice_nil, splice_zero, splice_step, gset_gset, Int.ofNat_inj, U_junk, U_cells, U_cellOk, ub_and, ub_or, ub_xor, ub_andNot, ub_add, ub_sub, ub_mul, ub_shl, ub_shr, ub_shl', ub_shr', ub_eql, ub_neq, ub_lss, ub_leq, ub_gtr, ub_geq, rc_reeveref1_GoodGeo, tf_reeveref1_Geo_Threads, tf_reeveref1_Geo_Slots, tf_reeveref1_Geo_Things, ta_int, ts_int, ta_reeveref1_Geo, ts_reeveref1_Geo, c1, c2]
    refine done_q hdom kn ?_ ?_; · rfl
    rw [goodG_no (by omega)]; rfl
  have e1 : IntKind.i64.wrap (8 * a) = 8 * a := wrap_i64 (by omega) (by omega)
  have e2 : IntKind.i64.wrap (a + 2) = a + 2 := wrap_i64 (by omega) (by omega)
  by_cases c3 : 8 * a ≤ b
  case neg =>
    simp (maxSteps := 1000000) (disch := first | assumption | omega | rfl | decide) [↓rules, rules, lit_u64, aEval_U, splice_nil, splice_zero, splice_step, gset_gset, Int.ofNat_inj, U_junk, U_cells, U_cellOk, ub_and, ub_or, ub_xor, ub_andNot, ub_add, ub_sub, ub_mul, ub_shl, ub_shr, ub_shl', ub_shr', ub_eql, ub_neq, ub_lss, ub_leq, ub_gtr, ub_geq, rc_reeveref1_GoodGeo, tf_reeveref1_Geo_Threads, tf_reeveref1_Geo_Slots, tf_reeveref1_Geo_Things, ta_int, ts_int, ta_reeveref1_Geo, ts_reeveref1_Geo, c1, c2, c3, e1]
    refine done_q hdom kn ?_ ?_; · rfl
    rw [goodG_no (by omega)]; rfl
  by_cases c4 : b ≤ 96
  case neg =>
    simp (maxSteps := 1000000) (disch := first | assumption | omega | rfl | decide) [↓rules, rules, lit_u64, aEval_U, splice_nil, splice_zero, splice_step, gset_gset, Int.ofNat_inj, U_junk, U_cells, U_cellOk, ub_and, ub_or, ub_xor, ub_andNot, ub_add, ub_sub, ub_mul, ub_shl, ub_shr, ub_shl', ub_shr', ub_eql, ub_neq, ub_lss, ub_leq, ub_gtr, ub_geq, rc_reeveref1_GoodGeo, tf_reeveref1_Geo_Threads, tf_reeveref1_Geo_Slots, tf_reeveref1_Geo_Things, ta_int, ts_int, ta_reeveref1_Geo, ts_reeveref1_Geo, c1, c2, c3, c4, e1]
    refine done_q hdom kn ?_ ?_; · rfl
    rw [goodG_no (by omega)]; rfl
  have e3 : b.tmod 8 = b % 8 := Int.tmod_eq_emod_of_nonneg (by omega)
  by_cases c5 : b % 8 = 0
  case neg =>
    simp (maxSteps := 1000000) (disch := first | assumption | omega | rfl | decide) [↓rules, rules, lit_u64, aEval_U, splice_nil, splice_zero, splice_step, gset_gset, Int.ofNat_inj, U_junk, U_cells, U_cellOk, ub_and, ub_or, ub_xor, ub_andNot, ub_add, ub_sub, ub_mul, ub_shl, ub_shr, ub_shl', ub_shr', ub_eql, ub_neq, ub_lss, ub_leq, ub_gtr, ub_geq, rc_reeveref1_GoodGeo, tf_reeveref1_Geo_Threads, tf_reeveref1_Geo_Slots, tf_reeveref1_Geo_Things, ta_int, ts_int, ta_reeveref1_Geo, ts_reeveref1_Geo, c1, c2, c3, c4, c5, e1, e3, bin_rem]
    refine done_q hdom kn ?_ ?_; · rfl
    rw [goodG_no (by omega)]; rfl
  by_cases c6 : a + 2 ≤ c
  case neg =>
    simp (maxSteps := 1000000) (disch := first | assumption | omega | rfl | decide) [↓rules, rules, lit_u64, aEval_U, splice_nil, splice_zero, splice_step, gset_gset, Int.ofNat_inj, U_junk, U_cells, U_cellOk, ub_and, ub_or, ub_xor, ub_andNot, ub_add, ub_sub, ub_mul, ub_shl, ub_shr, ub_shl', ub_shr', ub_eql, ub_neq, ub_lss, ub_leq, ub_gtr, ub_geq, rc_reeveref1_GoodGeo, tf_reeveref1_Geo_Threads, tf_reeveref1_Geo_Slots, tf_reeveref1_Geo_Things, ta_int, ts_int, ta_reeveref1_Geo, ts_reeveref1_Geo, c1, c2, c3, c4, c5, c6, e1, e2, e3, bin_rem]
    refine done_q hdom kn ?_ ?_; · rfl
    rw [goodG_no (by omega)]; rfl
  simp (maxSteps := 1000000) (disch := first | assumption | omega | rfl | decide) [↓rules, rules, lit_u64, aEval_U, splice_nil, splice_zero, splice_step, gset_gset, Int.ofNat_inj, U_junk, U_cells, U_cellOk, ub_and, ub_or, ub_xor, ub_andNot, ub_add, ub_sub, ub_mul, ub_shl, ub_shr, ub_shl', ub_shr', ub_eql, ub_neq, ub_lss, ub_leq, ub_gtr, ub_geq, rc_reeveref1_GoodGeo, tf_reeveref1_Geo_Threads, tf_reeveref1_Geo_Slots, tf_reeveref1_Geo_Things, ta_int, ts_int, ta_reeveref1_Geo, ts_reeveref1_Geo, c1, c2, c3, c4, c5, c6, e1, e2, e3, bin_rem]
  refine done_q hdom kn ?_ ?_; · rfl
  have : goodG a b c = decide (c ≤ 48) := by unfold goodG; rw [decide_eq_decide]; omega
  rw [this]; rfl
def copyG (a b c : Int) : Int := if goodG a b c = true then 16 + a * 1208 + 2 * b + 8 * c else 0
def rowsG (a b c : Int) : Int := if goodG a b c = true then copyG a b c / 8 + 1 else 0
def lockG (a b c : Int) : Int := if goodG a b c = true then 8 else 0
def descG (a b c i : Int) : Int × Int := if goodG a b c = true ∧ 0 ≤ i ∧ i < a then (16 + i * 1208, 1208) else (0, 0)
def slotG (a b c i : Int) : Int := if goodG a b c = true ∧ 0 ≤ i ∧ i < b then 16 + a * 1208 + 2 * i else 0
def thingG (a b c i : Int) : Int := if goodG a b c = true ∧ 0 ≤ i ∧ i < c then 16 + a * 1208 + 2 * b + 8 * i else 0
def rootG (a b c i : Int) : Int := if goodG a b c = true ∧ 0 ≤ i ∧ i < a then 8 * i else 0
theorem CopyG (a b c : Int) (g : AMem) (n : Nat) : FnC Try.prog f_geo_Copy [gv a b c] g n (fun _ => False) (.int .i64 (copyG a b c)) g n := by
  refine fnC_of_rwp t_geo_Copy hm rfl fun hdom => ?_
  have kn := (Kept.refl hdom).new (.row [.int .i64 a, .int .i64 b, .int .i64 c] true)
  simp (maxSteps := 1000000) (disch := first | assumption | omega | rfl | decide) [↓rules, rules, lit_u64, aEval_U, splice_nil, splice_zero, splice_step, gset_gset, Int.ofNat_inj, U_junk, U_cells, U_cellOk, ub_and, ub_or, ub_xor, ub_andNot, ub_add, ub_sub, ub_mul, ub_shl, ub_shr, ub_shl', ub_shr', ub_eql, ub_neq, ub_lss, ub_leq, ub_gtr, ub_geq, rc_geo_Copy, tf_geo_Geo_Threads, tf_geo_Geo_Slots, tf_geo_Geo_Things, ta_int, ts_int, ta_geo_Geo, ts_geo_Geo]
  refine rcall_quiet rfl (GoodG _ _ _ _ _) ?_
  cases hg : goodG a b c
  · simp (maxSteps := 1000000) (disch := first | assumption | omega | rfl | decide) [↓rules, rules, lit_u64, aEval_U, splice_nil, splice_zero, splice_step, gset_gset, Int.ofNat_inj, U_junk, U_cells, U_cellOk, ub_and, ub_or, ub_xor, ub_andNot, ub_add, ub_sub, ub_mul, ub_shl, ub_shr, ub_shl', ub_shr', ub_eql, ub_neq, ub_lss, ub_leq, ub_gtr, ub_geq]
    refine done_q hdom kn ?_ ?_; · rfl
    rw [copyG, hg]; rfl
  have ok := goodG_iff.1 hg
  have e1 : IntKind.i64.wrap (8 * c) = 8 * c := wrap_i64 (by omega) (by omega)
  have e2 : IntKind.i64.wrap (16 + a * 1208 + 2 * b + 8 * c) = 16 + a * 1208 + 2 * b + 8 * c := wrap_i64 (by omega) (by omega)
  have e3 : IntKind.i64.wrap (2 * b) = 2 * b := wrap_i64 (by omega) (by omega)
  have e4 : IntKind.i64.wrap (16 + a * 1208 + 2 * b) = 16 + a * 1208 + 2 * b := wrap_i64 (by omega) (by omega)
  simp (maxSteps := 1000000) (disch := first | assumption | omega | rfl | decide) [↓rules, rules, lit_u64, aEval_U, splice_nil, splice_zero, splice_step, gset_gset, Int.ofNat_inj, U_junk, U_cells, U_cellOk, ub_and, ub_or, ub_xor, ub_andNot, ub_add, ub_sub, ub_mul, ub_shl, ub_shr, ub_shl', ub_shr', ub_eql, ub_neq, ub_lss, ub_leq, ub_gtr, ub_geq, tf_geo_Geo_Threads, tf_geo_Geo_Slots, tf_geo_Geo_Things, ta_int, ts_int, ta_geo_Geo, ts_geo_Geo]
  refine rcall_quiet rfl (thingsAt a b c (by omega) (by omega) _ _) ?_
  simp (maxSteps := 1000000) (disch := first | assumption | omega | rfl | decide) [↓rules, rules, lit_u64, aEval_U, splice_nil, splice_zero, splice_step, gset_gset, Int.ofNat_inj, U_junk, U_cells, U_cellOk, ub_and, ub_or, ub_xor, ub_andNot, ub_add, ub_sub, ub_mul, ub_shl, ub_shr, ub_shl', ub_shr', ub_eql, ub_neq, ub_lss, ub_leq, ub_gtr, ub_geq, tf_geo_Geo_Threads, tf_geo_Geo_Slots, tf_geo_Geo_Things, ta_int, ts_int, ta_geo_Geo, ts_geo_Geo, e1, e2, e3, e4]
  refine done_q hdom kn ?_ ?_; · rfl
  rw [copyG, if_pos hg]; rfl
theorem CopyR (a b c : Int) (g : AMem) (n : Nat) : FnC Try.prog f_reeveref1_Copy [gv a b c] g n (fun _ => False) (.int .i64 (copyG a b c)) g n := by
  refine fnC_of_rwp t_reeveref1_Copy hm rfl fun hdom => ?_
  have kn := (Kept.refl hdom).new (.row [.int .i64 a, .int .i64 b, .int .i64 c] true)
  simp (maxSteps := 1000000) (disch := first | assumption | omega | rfl | decide) [↓rules, rules, lit_u64, aEval_U, splice_nil, splice_zero, splice_step, gset_gset, Int.ofNat_inj, U_junk, U_cells, U_cellOk, ub_and, ub_or, ub_xor, ub_andNot, ub_add, ub_sub, ub_mul, ub_shl, ub_shr, ub_shl', ub_shr', ub_eql, ub_neq, ub_lss, ub_leq, ub_gtr, ub_geq, rc_reeveref1_Copy, tf_reeveref1_Geo_Threads, tf_reeveref1_Geo_Slots, tf_reeveref1_Geo_Things, ta_int, ts_int, ta_reeveref1_Geo, ts_reeveref1_Geo]
  refine rcall_quiet rfl (GoodR _ _ _ _ _) ?_
  cases hg : goodG a b c
  · simp (maxSteps := 1000000) (disch := first | assumption | omega | rfl | decide) [↓rules, rules, lit_u64, aEval_U, splice_nil, splice_zero, splice_step, gset_gset, Int.ofNat_inj, U_junk, U_cells, U_cellOk, ub_and, ub_or, ub_xor, ub_andNot, ub_add, ub_sub, ub_mul, ub_shl, ub_shr, ub_shl', ub_shr', ub_eql, ub_neq, ub_lss, ub_leq, ub_gtr, ub_geq]
    refine done_q hdom kn ?_ ?_; · rfl
    rw [copyG, hg]; rfl
  have ok := goodG_iff.1 hg
  have e1 : IntKind.i64.wrap (8 * c) = 8 * c := wrap_i64 (by omega) (by omega)
  have e2 : IntKind.i64.wrap (16 + a * 1208 + 2 * b + 8 * c) = 16 + a * 1208 + 2 * b + 8 * c := wrap_i64 (by omega) (by omega)
  have e3 : IntKind.i64.wrap (2 * b) = 2 * b := wrap_i64 (by omega) (by omega)
  have e4 : IntKind.i64.wrap (16 + a * 1208 + 2 * b) = 16 + a * 1208 + 2 * b := wrap_i64 (by omega) (by omega)
  simp (maxSteps := 1000000) (disch := first | assumption | omega | rfl | decide) [↓rules, rules, lit_u64, aEval_U, splice_nil, splice_zero, splice_step, gset_gset, Int.ofNat_inj, U_junk, U_cells, U_cellOk, ub_and, ub_or, ub_xor, ub_andNot, ub_add, ub_sub, ub_mul, ub_shl, ub_shr, ub_shl', ub_shr', ub_eql, ub_neq, ub_lss, ub_leq, ub_gtr, ub_geq, tf_reeveref1_Geo_Threads, tf_reeveref1_Geo_Slots, tf_reeveref1_Geo_Things, ta_int, ts_int, ta_reeveref1_Geo, ts_reeveref1_Geo]
  refine rcall_quiet rfl (slotsR a b c (by omega) _ _) ?_
  simp (maxSteps := 1000000) (disch := first | assumption | omega | rfl | decide) [↓rules, rules, lit_u64, aEval_U, splice_nil, splice_zero, splice_step, gset_gset, Int.ofNat_inj, U_junk, U_cells, U_cellOk, ub_and, ub_or, ub_xor, ub_andNot, ub_add, ub_sub, ub_mul, ub_shl, ub_shr, ub_shl', ub_shr', ub_eql, ub_neq, ub_lss, ub_leq, ub_gtr, ub_geq, tf_reeveref1_Geo_Threads, tf_reeveref1_Geo_Slots, tf_reeveref1_Geo_Things, ta_int, ts_int, ta_reeveref1_Geo, ts_reeveref1_Geo, e1, e2, e3, e4]
  refine done_q hdom kn ?_ ?_; · rfl
  rw [copyG, if_pos hg]; rfl
theorem DescG (a b c i : Int) (g : AMem) (n : Nat) : FnC Try.prog f_geo_Desc [gv a b c, .int .i64 i] g n (fun _ => False) (.tuple #[.int .i64 (descG a b c i).1, .int .i64 (descG a b c i).2]) g n := by
  refine fnC_of_rwp t_geo_Desc hm rfl fun hdom => ?_
  have kn := (Kept.refl hdom).new (.row [.int .i64 a, .int .i64 b, .int .i64 c] true)
  simp (maxSteps := 1000000) (disch := first | assumption | omega | rfl | decide) [↓rules, rules, lit_u64, aEval_U, splice_nil, splice_zero, splice_step, gset_gset, Int.ofNat_inj, U_junk, U_cells, U_cellOk, ub_and, ub_or, ub_xor, ub_andNot, ub_add, ub_sub, ub_mul, ub_shl, ub_shr, ub_shl', ub_shr', ub_eql, ub_neq, ub_lss, ub_leq, ub_gtr, ub_geq, rc_geo_Desc, tf_geo_Geo_Threads, tf_geo_Geo_Slots, tf_geo_Geo_Things, ta_int, ts_int, ta_geo_Geo, ts_geo_Geo]
  refine rcall_quiet rfl (GoodG _ _ _ _ _) ?_
  cases hg : goodG a b c
  · simp (maxSteps := 1000000) (disch := first | assumption | omega | rfl | decide) [↓rules, rules, lit_u64, aEval_U, splice_nil, splice_zero, splice_step, gset_gset, Int.ofNat_inj, U_junk, U_cells, U_cellOk, ub_and, ub_or, ub_xor, ub_andNot, ub_add, ub_sub, ub_mul, ub_shl, ub_shr, ub_shl', ub_shr', ub_eql, ub_neq, ub_lss, ub_leq, ub_gtr, ub_geq]
    refine done_q hdom kn ?_ ?_; · rfl
    rw [descG, if_neg (fun h => by rw [hg] at h; cases h.1)]; rfl
  have ok := goodG_iff.1 hg
  have e0 : IntKind.i64.wrap (a - 1) = a - 1 := wrap_i64 (by omega) (by omega)
  simp (maxSteps := 1000000) (disch := first | assumption | omega | rfl | decide) [↓rules, rules, lit_u64, aEval_U, splice_nil, splice_zero, splice_step, gset_gset, Int.ofNat_inj, U_junk, U_cells, U_cellOk, ub_and, ub_or, ub_xor, ub_andNot, ub_add, ub_sub, ub_mul, ub_shl, ub_shr, ub_shl', ub_shr', ub_eql, ub_neq, ub_lss, ub_leq, ub_gtr, ub_geq, tf_geo_Geo_Threads, tf_geo_Geo_Slots, tf_geo_Geo_Things, ta_int, ts_int, ta_geo_Geo, ts_geo_Geo, e0]
  refine rcall_quiet rfl (inG _ _ _ _ _) ?_
  by_cases c1 : 0 ≤ i ∧ i ≤ a - 1
  case neg =>
    simp (maxSteps := 1000000) (disch := first | assumption | omega | rfl | decide) [↓rules, rules, lit_u64, aEval_U, splice_nil, splice_zero, splice_step, gset_gset, Int.ofNat_inj, U_junk, U_cells, U_cellOk, ub_and, ub_or, ub_xor, ub_andNot, ub_add, ub_sub, ub_mul, ub_shl, ub_shr, ub_shl', ub_shr', ub_eql, ub_neq, ub_lss, ub_leq, ub_gtr, ub_geq, c1]
    refine done_q hdom kn ?_ ?_; · rfl
    rw [descG, if_neg (by omega)]; rfl
  have e1 : IntKind.i64.wrap (i * 1208) = i * 1208 := wrap_i64 (by omega) (by omega)
  have e2 : IntKind.i64.wrap (16 + i * 1208) = 16 + i * 1208 := wrap_i64 (by omega) (by omega)
  simp (maxSteps := 1000000) (disch := first | assumption | omega | rfl | decide) [↓rules, rules, lit_u64, aEval_U, splice_nil, splice_zero, splice_step, gset_gset, Int.ofNat_inj, U_junk, U_cells, U_cellOk, ub_and, ub_or, ub_xor, ub_andNot, ub_add, ub_sub, ub_mul, ub_shl, ub_shr, ub_shl', ub_shr', ub_eql, ub_neq, ub_lss, ub_leq, ub_gtr, ub_geq, c1, tf_geo_Geo_Threads, tf_geo_Geo_Slots, tf_geo_Geo_Things, ta_int, ts_int, ta_geo_Geo, ts_geo_Geo, e1, e2]
  refine done_q hdom kn ?_ ?_; · rfl
  rw [descG, if_pos ⟨hg, by omega, by omega⟩]; rfl
theorem SlotG (a b c i : Int) (g : AMem) (n : Nat) : FnC Try.prog f_geo_Slot [gv a b c, .int .i64 i] g n (fun _ => False) (.int .i64 (slotG a b c i)) g n := by
  refine fnC_of_rwp t_geo_Slot hm rfl fun hdom => ?_
  have kn := (Kept.refl hdom).new (.row [.int .i64 a, .int .i64 b, .int .i64 c] true)
  simp (maxSteps := 1000000) (disch := first | assumption | omega | rfl | decide) [↓rules, rules, lit_u64, aEval_U, splice_nil, splice_zero, splice_step, gset_gset, Int.ofNat_inj, U_junk, U_cells, U_cellOk, ub_and, ub_or, ub_xor, ub_andNot, ub_add, ub_sub, ub_mul, ub_shl, ub_shr, ub_shl', ub_shr', ub_eql, ub_neq, ub_lss, ub_leq, ub_gtr, ub_geq, rc_geo_Slot, tf_geo_Geo_Threads, tf_geo_Geo_Slots, tf_geo_Geo_Things, ta_int, ts_int, ta_geo_Geo, ts_geo_Geo]
  refine rcall_quiet rfl (GoodG _ _ _ _ _) ?_
  cases hg : goodG a b c
  · simp (maxSteps := 1000000) (disch := first | assumption | omega | rfl | decide) [↓rules, rules, lit_u64, aEval_U, splice_nil, splice_zero, splice_step, gset_gset, Int.ofNat_inj, U_junk, U_cells, U_cellOk, ub_and, ub_or, ub_xor, ub_andNot, ub_add, ub_sub, ub_mul, ub_shl, ub_shr, ub_shl', ub_shr', ub_eql, ub_neq, ub_lss, ub_leq, ub_gtr, ub_geq]
    refine done_q hdom kn ?_ ?_; · rfl
    rw [slotG, if_neg (fun h => by rw [hg] at h; cases h.1)]; rfl
  have ok := goodG_iff.1 hg
  have e0 : IntKind.i64.wrap (b - 1) = b - 1 := wrap_i64 (by omega) (by omega)
  simp (maxSteps := 1000000) (disch := first | assumption | omega | rfl | decide) [↓rules, rules, lit_u64, aEval_U, splice_nil, splice_zero, splice_step, gset_gset, Int.ofNat_inj, U_junk, U_cells, U_cellOk, ub_and, ub_or, ub_xor, ub_andNot, ub_add, ub_sub, ub_mul, ub_shl, ub_shr, ub_shl', ub_shr', ub_eql, ub_neq, ub_lss, ub_leq, ub_gtr, ub_geq, tf_geo_Geo_Threads, tf_geo_Geo_Slots, tf_geo_Geo_Things, ta_int, ts_int, ta_geo_Geo, ts_geo_Geo, e0]
  refine rcall_quiet rfl (inG _ _ _ _ _) ?_
  by_cases c1 : 0 ≤ i ∧ i ≤ b - 1
  case neg =>
    simp (maxSteps := 1000000) (disch := first | assumption | omega | rfl | decide) [↓rules, rules, lit_u64, aEval_U, splice_nil, splice_zero, splice_step, gset_gset, Int.ofNat_inj, U_junk, U_cells, U_cellOk, ub_and, ub_or, ub_xor, ub_andNot, ub_add, ub_sub, ub_mul, ub_shl, ub_shr, ub_shl', ub_shr', ub_eql, ub_neq, ub_lss, ub_leq, ub_gtr, ub_geq, c1]
    refine done_q hdom kn ?_ ?_; · rfl
    rw [slotG, if_neg (by omega)]; rfl
  have e1 : IntKind.i64.wrap (2 * i) = 2 * i := wrap_i64 (by omega) (by omega)
  have e2 : IntKind.i64.wrap (16 + a * 1208 + 2 * i) = 16 + a * 1208 + 2 * i := wrap_i64 (by omega) (by omega)
  simp (maxSteps := 1000000) (disch := first | assumption | omega | rfl | decide) [↓rules, rules, lit_u64, aEval_U, splice_nil, splice_zero, splice_step, gset_gset, Int.ofNat_inj, U_junk, U_cells, U_cellOk, ub_and, ub_or, ub_xor, ub_andNot, ub_add, ub_sub, ub_mul, ub_shl, ub_shr, ub_shl', ub_shr', ub_eql, ub_neq, ub_lss, ub_leq, ub_gtr, ub_geq, c1, tf_geo_Geo_Threads, tf_geo_Geo_Slots, tf_geo_Geo_Things, ta_int, ts_int, ta_geo_Geo, ts_geo_Geo, e1, e2]
  refine rcall_quiet rfl (slotsAt a b c (by omega) _ _) ?_
  simp (maxSteps := 1000000) (disch := first | assumption | omega | rfl | decide) [↓rules, rules, lit_u64, aEval_U, splice_nil, splice_zero, splice_step, gset_gset, Int.ofNat_inj, U_junk, U_cells, U_cellOk, ub_and, ub_or, ub_xor, ub_andNot, ub_add, ub_sub, ub_mul, ub_shl, ub_shr, ub_shl', ub_shr', ub_eql, ub_neq, ub_lss, ub_leq, ub_gtr, ub_geq, tf_geo_Geo_Threads, tf_geo_Geo_Slots, tf_geo_Geo_Things, ta_int, ts_int, ta_geo_Geo, ts_geo_Geo, e1, e2]
  refine done_q hdom kn ?_ ?_; · rfl
  rw [slotG, if_pos ⟨hg, by omega, by omega⟩]; rfl
theorem DescR (a b c i : Int) (g : AMem) (n : Nat) : FnC Try.prog f_reeveref1_Desc [gv a b c, .int .i64 i] g n (fun _ => False) (.tuple #[.int .i64 (descG a b c i).1, .int .i64 (descG a b c i).2]) g n := by
  refine fnC_of_rwp t_reeveref1_Desc hm rfl fun hdom => ?_
  have kn := (Kept.refl hdom).new (.row [.int .i64 a, .int .i64 b, .int .i64 c] true)
  simp (maxSteps := 1000000) (disch := first | assumption | omega | rfl | decide) [↓rules, rules, lit_u64, aEval_U, splice_nil, splice_zero, splice_step, gset_gset, Int.ofNat_inj, U_junk, U_cells, U_cellOk, ub_and, ub_or, ub_xor, ub_andNot, ub_add, ub_sub, ub_mul, ub_shl, ub_shr, ub_shl', ub_shr', ub_eql, ub_neq, ub_lss, ub_leq, ub_gtr, ub_geq, rc_reeveref1_Desc, tf_reeveref1_Geo_Threads, tf_reeveref1_Geo_Slots, tf_reeveref1_Geo_Things, ta_int, ts_int, ta_reeveref1_Geo, ts_reeveref1_Geo]
  refine rcall_quiet rfl (GoodR _ _ _ _ _) ?_
  cases hg : goodG a b c
  · simp (maxSteps := 1000000) (disch := first | assumption | omega | rfl | decide) [↓rules, rules, lit_u64, aEval_U, splice_nil, splice_zero, splice_step, gset_gset, Int.ofNat_inj, U_junk, U_cells, U_cellOk, ub_and, ub_or, ub_xor, ub_andNot, ub_add, ub_sub, ub_mul, ub_shl, ub_shr, ub_shl', ub_shr', ub_eql, ub_neq, ub_lss, ub_leq, ub_gtr, ub_geq]
    refine done_q hdom kn ?_ ?_; · rfl
    rw [descG, if_neg (fun h => by rw [hg] at h; cases h.1)]; rfl
  have ok := goodG_iff.1 hg
  by_cases c1 : i < 0
  · simp (maxSteps := 1000000) (disch := first | assumption | omega | rfl | decide) [↓rules, rules, lit_u64, aEval_U, splice_nil, splice_zero, splice_step, gset_gset, Int.ofNat_inj, U_junk, U_cells, U_cellOk, ub_and, ub_or, ub_xor, ub_andNot, ub_add, ub_sub, ub_mul, ub_shl, ub_shr, ub_shl', ub_shr', ub_eql, ub_neq, ub_lss, ub_leq, ub_gtr, ub_geq, c1]
    refine done_q hdom kn ?_ ?_; · rfl
    rw [descG, if_neg (by omega)]; rfl
  by_cases c2 : a ≤ i
  · simp (maxSteps := 1000000) (disch := first | assumption | omega | rfl | decide) [↓rules, rules, lit_u64, aEval_U, splice_nil, splice_zero, splice_step, gset_gset, Int.ofNat_inj, U_junk, U_cells, U_cellOk, ub_and, ub_or, ub_xor, ub_andNot, ub_add, ub_sub, ub_mul, ub_shl, ub_shr, ub_shl', ub_shr', ub_eql, ub_neq, ub_lss, ub_leq, ub_gtr, ub_geq, c1, c2, tf_reeveref1_Geo_Threads, tf_reeveref1_Geo_Slots, tf_reeveref1_Geo_Things, ta_int, ts_int, ta_reeveref1_Geo, ts_reeveref1_Geo]
    refine done_q hdom kn ?_ ?_; · rfl
    rw [descG, if_neg (by omega)]; rfl
  have e1 : IntKind.i64.wrap (i * 1208) = i * 1208 := wrap_i64 (by omega) (by omega)
  have e2 : IntKind.i64.wrap (16 + i * 1208) = 16 + i * 1208 := wrap_i64 (by omega) (by omega)
  simp (maxSteps := 1000000) (disch := first | assumption | omega | rfl | decide) [↓rules, rules, lit_u64, aEval_U, splice_nil, splice_zero, splice_step, gset_gset, Int.ofNat_inj, U_junk, U_cells, U_cellOk, ub_and, ub_or, ub_xor, ub_andNot, ub_add, ub_sub, ub_mul, ub_shl, ub_shr, ub_shl', ub_shr', ub_eql, ub_neq, ub_lss, ub_leq, ub_gtr, ub_geq, c1, c2, tf_reeveref1_Geo_Threads, tf_reeveref1_Geo_Slots, tf_reeveref1_Geo_Things, ta_int, ts_int, ta_reeveref1_Geo, ts_reeveref1_Geo, e1, e2]
  refine rcall_quiet rfl (long _ _) ?_
  simp (maxSteps := 1000000) (disch := first | assumption | omega | rfl | decide) [↓rules, rules, lit_u64, aEval_U, splice_nil, splice_zero, splice_step, gset_gset, Int.ofNat_inj, U_junk, U_cells, U_cellOk, ub_and, ub_or, ub_xor, ub_andNot, ub_add, ub_sub, ub_mul, ub_shl, ub_shr, ub_shl', ub_shr', ub_eql, ub_neq, ub_lss, ub_leq, ub_gtr, ub_geq, e1, e2]
  refine rcall_quiet rfl (long _ _) ?_
  simp (maxSteps := 1000000) (disch := first | assumption | omega | rfl | decide) [↓rules, rules, lit_u64, aEval_U, splice_nil, splice_zero, splice_step, gset_gset, Int.ofNat_inj, U_junk, U_cells, U_cellOk, ub_and, ub_or, ub_xor, ub_andNot, ub_add, ub_sub, ub_mul, ub_shl, ub_shr, ub_shl', ub_shr', ub_eql, ub_neq, ub_lss, ub_leq, ub_gtr, ub_geq, tf_reeveref1_Geo_Threads, tf_reeveref1_Geo_Slots, tf_reeveref1_Geo_Things, ta_int, ts_int, ta_reeveref1_Geo, ts_reeveref1_Geo, e1, e2]
  refine done_q hdom kn ?_ ?_; · rfl
  rw [descG, if_pos ⟨hg, by omega, by omega⟩]; rfl
theorem SlotR (a b c i : Int) (g : AMem) (n : Nat) : FnC Try.prog f_reeveref1_Slot [gv a b c, .int .i64 i] g n (fun _ => False) (.int .i64 (slotG a b c i)) g n := by
  refine fnC_of_rwp t_reeveref1_Slot hm rfl fun hdom => ?_
  have kn := (Kept.refl hdom).new (.row [.int .i64 a, .int .i64 b, .int .i64 c] true)
  simp (maxSteps := 1000000) (disch := first | assumption | omega | rfl | decide) [↓rules, rules, lit_u64, aEval_U, splice_nil, splice_zero, splice_step, gset_gset, Int.ofNat_inj, U_junk, U_cells, U_cellOk, ub_and, ub_or, ub_xor, ub_andNot, ub_add, ub_sub, ub_mul, ub_shl, ub_shr, ub_shl', ub_shr', ub_eql, ub_neq, ub_lss, ub_leq, ub_gtr, ub_geq, rc_reeveref1_Slot, tf_reeveref1_Geo_Threads, tf_reeveref1_Geo_Slots, tf_reeveref1_Geo_Things, ta_int, ts_int, ta_reeveref1_Geo, ts_reeveref1_Geo]
  refine rcall_quiet rfl (GoodR _ _ _ _ _) ?_
  cases hg : goodG a b c
  · simp (maxSteps := 1000000) (disch := first | assumption | omega | rfl | decide) [↓rules, rules, lit_u64, aEval_U, splice_nil, splice_zero, splice_step, gset_gset, Int.ofNat_inj, U_junk, U_cells, U_cellOk, ub_and, ub_or, ub_xor, ub_andNot, ub_add, ub_sub, ub_mul, ub_shl, ub_shr, ub_shl', ub_shr', ub_eql, ub_neq, ub_lss, ub_leq, ub_gtr, ub_geq]
    refine done_q hdom kn ?_ ?_; · rfl
    rw [slotG, if_neg (fun h => by rw [hg] at h; cases h.1)]; rfl
  have ok := goodG_iff.1 hg
  by_cases c1 : i < 0
  · simp (maxSteps := 1000000) (disch := first | assumption | omega | rfl | decide) [↓rules, rules, lit_u64, aEval_U, splice_nil, splice_zero, splice_step, gset_gset, Int.ofNat_inj, U_junk, U_cells, U_cellOk, ub_and, ub_or, ub_xor, ub_andNot, ub_add, ub_sub, ub_mul, ub_shl, ub_shr, ub_shl', ub_shr', ub_eql, ub_neq, ub_lss, ub_leq, ub_gtr, ub_geq, c1]
    refine done_q hdom kn ?_ ?_; · rfl
    rw [slotG, if_neg (by omega)]; rfl
  by_cases c2 : b ≤ i
  · simp (maxSteps := 1000000) (disch := first | assumption | omega | rfl | decide) [↓rules, rules, lit_u64, aEval_U, splice_nil, splice_zero, splice_step, gset_gset, Int.ofNat_inj, U_junk, U_cells, U_cellOk, ub_and, ub_or, ub_xor, ub_andNot, ub_add, ub_sub, ub_mul, ub_shl, ub_shr, ub_shl', ub_shr', ub_eql, ub_neq, ub_lss, ub_leq, ub_gtr, ub_geq, c1, c2, tf_reeveref1_Geo_Threads, tf_reeveref1_Geo_Slots, tf_reeveref1_Geo_Things, ta_int, ts_int, ta_reeveref1_Geo, ts_reeveref1_Geo]
    refine done_q hdom kn ?_ ?_; · rfl
    rw [slotG, if_neg (by omega)]; rfl
  have e1 : IntKind.i64.wrap (2 * i) = 2 * i := wrap_i64 (by omega) (by omega)
  have e2 : IntKind.i64.wrap (16 + a * 1208 + 2 * i) = 16 + a * 1208 + 2 * i := wrap_i64 (by omega) (by omega)
  simp (maxSteps := 1000000) (disch := first | assumption | omega | rfl | decide) [↓rules, rules, lit_u64, aEval_U, splice_nil, splice_zero, splice_step, gset_gset, Int.ofNat_inj, U_junk, U_cells, U_cellOk, ub_and, ub_or, ub_xor, ub_andNot, ub_add, ub_sub, ub_mul, ub_shl, ub_shr, ub_shl', ub_shr', ub_eql, ub_neq, ub_lss, ub_leq, ub_gtr, ub_geq, c1, c2, tf_reeveref1_Geo_Threads, tf_reeveref1_Geo_Slots, tf_reeveref1_Geo_Things, ta_int, ts_int, ta_reeveref1_Geo, ts_reeveref1_Geo, e1, e2]
  refine rcall_quiet rfl (slotsR a b c (by omega) _ _) ?_
  simp (maxSteps := 1000000) (disch := first | assumption | omega | rfl | decide) [↓rules, rules, lit_u64, aEval_U, splice_nil, splice_zero, splice_step, gset_gset, Int.ofNat_inj, U_junk, U_cells, U_cellOk, ub_and, ub_or, ub_xor, ub_andNot, ub_add, ub_sub, ub_mul, ub_shl, ub_shr, ub_shl', ub_shr', ub_eql, ub_neq, ub_lss, ub_leq, ub_gtr, ub_geq, tf_reeveref1_Geo_Threads, tf_reeveref1_Geo_Slots, tf_reeveref1_Geo_Things, ta_int, ts_int, ta_reeveref1_Geo, ts_reeveref1_Geo, e1, e2]
  refine done_q hdom kn ?_ ?_; · rfl
  rw [slotG, if_pos ⟨hg, by omega, by omega⟩]; rfl
end Go.Proofs.Ytafpgojoemcgnaa.F24

namespace Go.Proofs.Ytafpgojoemcgnaa.F24
open Go Go.Proofs Go.Proofs.YtafpgojoemcgnaaAbs
set_option maxRecDepth 100000
def M (a b : Int) : BitVec 64 := ((1#64 <<< b.toNat) - 1#64) <<< a.toNat
set_option maxHeartbeats 2000000
theorem mask (a b : Int) (ha : 0 ≤ a) (hb : 0 ≤ b) (g : AMem) (n : Nat) : FnC Try.prog f_tag_Field_mask [.agg #[.int .i64 a, .int .i64 b]] g n (fun _ => False) (U (M a b)) g n := by
  refine fnC_of_rwp t_tag_Field_mask hm rfl fun hdom => ?_
  simp (maxSteps := 1000000) (disch := first | assumption | omega | rfl | decide) [↓rules, rules, lit_u64, aEval_U, splice_nil, splice_zero, splice_step, gset_gset, Int.ofNat_inj, U_junk, U_cells, U_cellOk, ub_and, ub_or, ub_xor, ub_andNot, ub_add, ub_sub, ub_mul, ub_shl, ub_shr, ub_shl', ub_shr', ub_eql, ub_neq, ub_lss, ub_leq, ub_gtr, ub_geq, rc_tag_Field_mask, tf_tag_Field_From, tf_tag_Field_Len, ta_int, ts_int]
  refine done_q hdom ((Kept.refl hdom).new _) ?_ ?_ <;> rfl
abbrev okF (a b : Int) (w : BitVec 64) : Prop := 0 ≤ a ∧ a < 64 ∧ 1 ≤ b ∧ b ≤ 64 - a ∧ w &&& M a b = 0#64
/-- All fields' bits. -/
def allF : List (Int × Int) → BitVec 64 → BitVec 64 × Bool
  | [], w => (w, true)
  | f :: fs, w => if okF f.1 f.2 w then allF fs (w ||| M f.1 f.2) else (0#64, false)
def encF (f : Int × Int) : List Value := [.int .i64 f.1, .int .i64 f.2]
def fOk (f : Int × Int) : Prop := -9223372036854775808 ≤ f.1 ∧ f.1 ≤ 9223372036854775807 ∧ -9223372036854775808 ≤ f.2 ∧ f.2 ≤ 9223372036854775807
theorem all (v : Value) (fs : List (Int × Int)) (g : AMem) (n : Nat) (hl : fs.length < 4611686018427387904) (hfo : ∀ f ∈ fs, fOk f) (hv : Rd g 2 encF v fs) : FnC Try.prog f_tag_all [v] g n (fun _ => False) (.tuple #[U (allF fs 0#64).1, .bool (allF fs 0#64).2]) g n := by
  refine fnC_of_rwp t_tag_all hm rfl fun hdom => ?_
  obtain ⟨a, e', hvf⟩ := hv.form
  simp (maxSteps := 1000000) (disch := first | assumption | omega | rfl | decide) [↓rules, rules, lit_u64, aEval_U, splice_nil, splice_zero, splice_step, gset_gset, Int.ofNat_inj, U_junk, U_cells, U_cellOk, ub_and, ub_or, ub_xor, ub_andNot, ub_add, ub_sub, ub_mul, ub_shl, ub_shr, ub_shl', ub_shr', ub_eql, ub_neq, ub_lss, ub_leq, ub_gtr, ub_geq, rc_tag_all, hvf, tu_S_tag_Field]
  refine rwp_loop (fun k l g' n' => ∃ i w, k = fs.length - i ∧ i ≤ fs.length ∧ Kept g n g' n' ∧ allF (fs.drop i) w = allF fs 0#64 ∧ l = [(4, U w), (7, v), (8, .int .i64 fs.length), (9, .int .i64 i)]) ?_ (k := fs.length) ?_
  · rintro k l g' n' ⟨i, w, rfl, hi, hk, hw, rfl⟩
    simp (maxSteps := 1000000) (disch := first | assumption | omega | rfl | decide) [↓rules, rules, lit_u64, aEval_U, splice_nil, splice_zero, splice_step, gset_gset, Int.ofNat_inj, U_junk, U_cells, U_cellOk, ub_and, ub_or, ub_xor, ub_andNot, ub_add, ub_sub, ub_mul, ub_shl, ub_shr, ub_shl', ub_shr', ub_eql, ub_neq, ub_lss, ub_leq, ub_gtr, ub_geq, rc_tag_alll0]
    refine rcond_dec (fun hlt => ?_) (fun hlt => ?_)
    · have hlt : i < fs.length := by omega
      obtain ⟨b, o, cs, rw_, h1, h2, h3, h4, h5⟩ := hv.elem (fun _ => rfl) hlt
      have hb : b < n := hdom b (by rw [h2]; simp)
      have hn := hk.le
      have hbn : b ≠ n' := by omega
      have h2' : g' b = some (.row cs rw_) := by rw [hk.same b hb, h2]
      have hdrop : fs.drop i = fs[i] :: fs.drop (i + 1) := List.drop_eq_getElem_cons hlt
      have hf := hfo fs[i] (List.getElem_mem hlt)
      generalize fs[i] = f at *
      obtain ⟨p, q⟩ := f
      obtain ⟨hf1, hf2, hf3, hf4⟩ := hf
      simp only at hf1 hf2 hf3 hf4
      rw [hdrop, allF] at hw
      have hld := load_elem (P := Try.prog) h2' ta_tag_Field ts_tag_Field h3 h4
      simp (maxSteps := 1000000) (disch := first | assumption | omega | rfl | decide) [↓rules, rules, lit_u64, aEval_U, splice_nil, splice_zero, splice_step, gset_gset, Int.ofNat_inj, U_junk, U_cells, U_cellOk, ub_and, ub_or, ub_xor, ub_andNot, ub_add, ub_sub, ub_mul, ub_shl, ub_shr, ub_shl', ub_shr', ub_eql, ub_neq, ub_lss, ub_leq, ub_gtr, ub_geq, h1, tu_S_tag_Field, ts_tag_Field, hlt, hld, encF, tz_tag_Field]
      refine ⟨hn, ?_⟩
      have bad : ¬ okF p q w → allF fs 0#64 = (0#64, false) := fun h => by rw [← hw, if_neg h]
      have kn := (hk.new (.row [.int .i64 p, .int .i64 q] true))
      by_cases c1 : p < 0
      · simp (maxSteps := 1000000) (disch := first | assumption | omega | rfl | decide) [↓rules, rules, lit_u64, aEval_U, splice_nil, splice_zero, splice_step, gset_gset, Int.ofNat_inj, U_junk, U_cells, U_cellOk, ub_and, ub_or, ub_xor, ub_andNot, ub_add, ub_sub, ub_mul, ub_shl, ub_shr, ub_shl', ub_shr', ub_eql, ub_neq, ub_lss, ub_leq, ub_gtr, ub_geq, tf_tag_Field_From, tf_tag_Field_Len, ta_int, ts_int, c1]
        refine done_q hdom kn ?_ ?_; · rfl
        rw [bad (by unfold okF; omega)]; rfl
      by_cases c2 : 64 ≤ p
      · simp (maxSteps := 1000000) (disch := first | assumption | omega | rfl | decide) [↓rules, rules, lit_u64, aEval_U, splice_nil, splice_zero, splice_step, gset_gset, Int.ofNat_inj, U_junk, U_cells, U_cellOk, ub_and, ub_or, ub_xor, ub_andNot, ub_add, ub_sub, ub_mul, ub_shl, ub_shr, ub_shl', ub_shr', ub_eql, ub_neq, ub_lss, ub_leq, ub_gtr, ub_geq, tf_tag_Field_From, tf_tag_Field_Len, ta_int, ts_int, c1, c2]
        refine done_q hdom kn ?_ ?_; · rfl
        rw [bad (by unfold okF; omega)]; rfl
      by_cases c3 : q < 1
      · simp (maxSteps := 1000000) (disch := first | assumption | omega | rfl | decide) [↓rules, rules, lit_u64, aEval_U, splice_nil, splice_zero, splice_step, gset_gset, Int.ofNat_inj, U_junk, U_cells, U_cellOk, ub_and, ub_or, ub_xor, ub_andNot, ub_add, ub_sub, ub_mul, ub_shl, ub_shr, ub_shl', ub_shr', ub_eql, ub_neq, ub_lss, ub_leq, ub_gtr, ub_geq, tf_tag_Field_From, tf_tag_Field_Len, ta_int, ts_int, c1, c2, c3]
        refine done_q hdom kn ?_ ?_; · rfl
        rw [bad (by unfold okF; omega)]; rfl
      by_cases c4 : 64 - p < q
      · simp (maxSteps := 1000000) (disch := first | assumption | omega | rfl | decide) [↓rules, rules, lit_u64, aEval_U, splice_nil, splice_zero, splice_step, gset_gset, Int.ofNat_inj, U_junk, U_cells, U_cellOk, ub_and, ub_or, ub_xor, ub_andNot, ub_add, ub_sub, ub_mul, ub_shl, ub_shr, ub_shl', ub_shr', ub_eql, ub_neq, ub_lss, ub_leq, ub_gtr, ub_geq, tf_tag_Field_From, tf_tag_Field_Len, ta_int, ts_int, c1, c2, c3, wrap_i64, c4]
        refine done_q hdom kn ?_ ?_; · rfl
        rw [bad (by unfold okF; omega)]; rfl
      simp (maxSteps := 1000000) (disch := first | assumption | omega | rfl | decide) [↓rules, rules, lit_u64, aEval_U, splice_nil, splice_zero, splice_step, gset_gset, Int.ofNat_inj, U_junk, U_cells, U_cellOk, ub_and, ub_or, ub_xor, ub_andNot, ub_add, ub_sub, ub_mul, ub_shl, ub_shr, ub_shl', ub_shr', ub_eql, ub_neq, ub_lss, ub_leq, ub_gtr, ub_geq, tf_tag_Field_From, tf_tag_Field_Len, ta_int, ts_int, c1, c2, c3, wrap_i64, c4, ta_tag_Field, ts_tag_Field]
      refine rcall_quiet rfl (mask p q (by omega) (by omega) _ _) ?_
      simp (maxSteps := 1000000) (disch := first | assumption | omega | rfl | decide) [↓rules, rules, lit_u64, aEval_U, splice_nil, splice_zero, splice_step, gset_gset, Int.ofNat_inj, U_junk, U_cells, U_cellOk, ub_and, ub_or, ub_xor, ub_andNot, ub_add, ub_sub, ub_mul, ub_shl, ub_shr, ub_shl', ub_shr', ub_eql, ub_neq, ub_lss, ub_leq, ub_gtr, ub_geq]
      refine rcond_bool (fun c5 => ?_) (fun c5 => ?_)
      · refine done_q hdom kn ?_ ?_; · rfl
        rw [bad (by unfold okF; intro h; simp [h.2.2.2.2] at c5)]; rfl
      · have good : okF p q w := by unfold okF; refine ⟨by omega, by omega, by omega, by omega, ?_⟩; simpa using c5
        simp (maxSteps := 1000000) (disch := first | assumption | omega | rfl | decide) [↓rules, rules, lit_u64, aEval_U, splice_nil, splice_zero, splice_step, gset_gset, Int.ofNat_inj, U_junk, U_cells, U_cellOk, ub_and, ub_or, ub_xor, ub_andNot, ub_add, ub_sub, ub_mul, ub_shl, ub_shr, ub_shl', ub_shr', ub_eql, ub_neq, ub_lss, ub_leq, ub_gtr, ub_geq, ta_tag_Field, ts_tag_Field]
        refine rcall_quiet rfl (mask p q (by omega) (by omega) _ _) ?_
        simp (maxSteps := 1000000) (disch := first | assumption | omega | rfl | decide) [↓rules, rules, lit_u64, aEval_U, splice_nil, splice_zero, splice_step, gset_gset, Int.ofNat_inj, U_junk, U_cells, U_cellOk, ub_and, ub_or, ub_xor, ub_andNot, ub_add, ub_sub, ub_mul, ub_shl, ub_shr, ub_shl', ub_shr', ub_eql, ub_neq, ub_lss, ub_leq, ub_gtr, ub_geq, wrap_i64]
        refine ⟨fs.length - (i + 1), by omega, i + 1, rfl, by omega, kn, w ||| M p q, ?_, by simp⟩
        rw [← hw, if_pos good]
    · refine done_q hdom hk ?_ ?_; · rfl
      have : i = fs.length := by omega
      subst this
      rw [List.drop_length, allF] at hw
      rw [← hw]; rfl
  · exact ⟨0, 0#64, by simp, by simp, Kept.refl hdom, by simp, by rw [← hvf]; rfl⟩

def goodF (fs : List (Int × Int)) : Bool := (allF fs 0#64).2
abbrev rdF (g : AMem) (v : Value) (fs : List (Int × Int)) : Prop := Rd g 2 encF v fs
theorem Good (v : Value) (fs : List (Int × Int)) (g : AMem) (n : Nat) (hl : fs.length < 4611686018427387904) (hfo : ∀ f ∈ fs, fOk f) (hv : rdF g v fs) : FnC Try.prog f_tag_Good [v] g n (fun _ => False) (.bool (goodF fs)) g n := by
  refine fnC_of_rwp t_tag_Good hm rfl fun hdom => ?_
  simp (maxSteps := 1000000) (disch := first | assumption | omega | rfl | decide) [↓rules, rules, lit_u64, aEval_U, splice_nil, splice_zero, splice_step, gset_gset, Int.ofNat_inj, U_junk, U_cells, U_cellOk, ub_and, ub_or, ub_xor, ub_andNot, ub_add, ub_sub, ub_mul, ub_shl, ub_shr, ub_shl', ub_shr', ub_eql, ub_neq, ub_lss, ub_leq, ub_gtr, ub_geq, rc_tag_Good]
  refine rcall_quiet rfl (all v fs g n hl hfo hv) ?_
  simp (maxSteps := 1000000) (disch := first | assumption | omega | rfl | decide) [↓rules, rules, lit_u64, aEval_U, splice_nil, splice_zero, splice_step, gset_gset, Int.ofNat_inj, U_junk, U_cells, U_cellOk, ub_and, ub_or, ub_xor, ub_andNot, ub_add, ub_sub, ub_mul, ub_shl, ub_shr, ub_shl', ub_shr', ub_eql, ub_neq, ub_lss, ub_leq, ub_gtr, ub_geq]
  refine done_q hdom (Kept.refl hdom) ?_ ?_ <;> rfl
theorem allF_good : ∀ (fs : List (Int × Int)) (w : BitVec 64), (allF fs w).2 = true → ∀ f ∈ fs, 0 ≤ f.1 ∧ f.1 < 64 ∧ 1 ≤ f.2 ∧ f.2 ≤ 64 - f.1
  | [], w, h, f, hf => by cases hf
  | x :: fs, w, h, f, hf => by
    rw [allF] at h
    split at h
    · rename_i ho
      cases hf with
      | head => exact ⟨ho.1, ho.2.1, ho.2.2.1, ho.2.2.2.1⟩
      | tail _ hf => exact allF_good fs _ h f hf
    · cases h
def getF (w : BitVec 64) (f : Int × Int) : BitVec 64 := (w &&& M f.1 f.2) >>> f.1.toNat
def getsF (w : BitVec 64) (fs : List (Int × Int)) : List (BitVec 64) := if goodF fs = true then fs.map (getF w) else []
theorem cellOks (ws : List (BitVec 64)) : (ws.map U).all cellOk = true := by
  induction ws with
  | nil => rfl
  | cons w ws ih => simp [ih, U_cellOk]
theorem Get (w : BitVec 64) (v : Value) (fs : List (Int × Int)) (g : AMem) (n : Nat) (hdom : ∀ i, g i ≠ none → i < n) (hl : fs.length ≤ 1000) (hfo : ∀ f ∈ fs, fOk f) (hv : rdF g v fs) :
    FnS Try.prog f_tag_Get [U w, v] g n (fun _ => False) fun r g' n' => rdW g' r (getsF w fs) ∧ Kept g n g' n' := by
  refine fnS_of_rwp t_tag_Get hm rfl hdom ?_
  obtain ⟨a, e', hvf⟩ := hv.form
  simp (maxSteps := 1000000) (disch := first | assumption | omega | rfl | decide) [↓rules, rules, lit_u64, aEval_U, splice_nil, splice_zero, splice_step, gset_gset, Int.ofNat_inj, U_junk, U_cells, U_cellOk, ub_and, ub_or, ub_xor, ub_andNot, ub_add, ub_sub, ub_mul, ub_shl, ub_shr, ub_shl', ub_shr', ub_eql, ub_neq, ub_lss, ub_leq, ub_gtr, ub_geq, rc_tag_Get]
  refine rcall_quiet rfl (Good v fs g n (by omega) hfo hv) ?_
  simp (maxSteps := 1000000) (disch := first | assumption | omega | rfl | decide) [↓rules, rules, lit_u64, aEval_U, splice_nil, splice_zero, splice_step, gset_gset, Int.ofNat_inj, U_junk, U_cells, U_cellOk, ub_and, ub_or, ub_xor, ub_andNot, ub_add, ub_sub, ub_mul, ub_shl, ub_shr, ub_shl', ub_shr', ub_eql, ub_neq, ub_lss, ub_leq, ub_gtr, ub_geq, hvf, tu_S_tag_Field, aMake_eq tu_S_uint64 ts_uint64 tb_uint64 tv_uint64, zeroRow_zero]
  refine rcond_bool (fun c => ?_) (fun c => ?_)
  · have c : goodF fs = false := by simpa using c
    refine sdone_ret rfl ⟨?_, Kept.refl hdom⟩
    rw [getsF, c]; exact Rd.nil
  · have c : goodF fs = true := by simpa using c
    have hok := allF_good fs 0#64 c
    have l1 : (fs.length : Int) ≤ 70368744177664 := by omega
    have l2 : 8 * fs.length ≤ 70368744177664 := by omega
    simp (maxSteps := 1000000) (disch := first | assumption | omega | rfl | decide) [↓rules, rules, lit_u64, aEval_U, splice_nil, splice_zero, splice_step, gset_gset, Int.ofNat_inj, U_junk, U_cells, U_cellOk, ub_and, ub_or, ub_xor, ub_andNot, ub_add, ub_sub, ub_mul, ub_shl, ub_shr, ub_shl', ub_shr', ub_eql, ub_neq, ub_lss, ub_leq, ub_gtr, ub_geq, l1, l2, hvf, tu_S_tag_Field]
    refine rwp_loop (fun k l g' n' => ∃ i b, k = fs.length - i ∧ i ≤ fs.length ∧ Kept g n g' n' ∧ n ≤ b ∧ g' b = some (.row ((fs.map fun f => U (getF w f)).take i) true) ∧ l = [(0, U w), (5, .slice (some ⟨b, 0, none⟩) i 1), (14, v), (15, .int .i64 fs.length), (16, .int .i64 i)]) ?_ (k := fs.length) ?_
    · rintro k l g' n' ⟨i, b, rfl, hi, hk, hb, hgb, rfl⟩
      simp (maxSteps := 1000000) (disch := first | assumption | omega | rfl | decide) [↓rules, rules, lit_u64, aEval_U, splice_nil, splice_zero, splice_step, gset_gset, Int.ofNat_inj, U_junk, U_cells, U_cellOk, ub_and, ub_or, ub_xor, ub_andNot, ub_add, ub_sub, ub_mul, ub_shl, ub_shr, ub_shl', ub_shr', ub_eql, ub_neq, ub_lss, ub_leq, ub_gtr, ub_geq, rc_tag_Getl0]
      refine rcond_dec (fun hlt => ?_) (fun hlt => ?_)
      · have hlt : i < fs.length := by omega
        obtain ⟨b1, o1, h1, hb1, h2, h3⟩ := Rd.many (enc := encF) (e := 2) (fun _ => rfl) hv hlt
        have e1 := h2 g' (hk.ext hdom) Try.prog _ ta_tag_Field ts_tag_Field
        have hp := hok fs[i] (List.getElem_mem hlt)
        have hb1 := hdom b1 hb1
        have hbn := hk.lt hgb
        have hn := hk.le
        simp (maxSteps := 1000000) (disch := first | assumption | omega | rfl | decide) [↓rules, rules, lit_u64, aEval_U, splice_nil, splice_zero, splice_step, gset_gset, Int.ofNat_inj, U_junk, U_cells, U_cellOk, ub_and, ub_or, ub_xor, ub_andNot, ub_add, ub_sub, ub_mul, ub_shl, ub_shr, ub_shl', ub_shr', ub_eql, ub_neq, ub_lss, ub_leq, ub_gtr, ub_geq, h1, tu_S_tag_Field, ts_tag_Field, hlt, e1, encF, tz_tag_Field, tf_tag_Field_From, ta_tag_Field]
        refine ⟨hn, ?_⟩
        refine rcall_quiet rfl (mask _ _ (by omega) (by omega) _ _) ?_
        have hbn1 : b ≠ n' := by omega
        have hbn2 : b ≠ n' + 1 := by omega
        have hsz : (i + 1) * 8 ≤ 70368744177664 := by omega
        have hsz2 : i + 1 ≤ 70368744177664 := by omega
        have hmin : min i fs.length = i := by omega
        simp (maxSteps := 1000000) (disch := first | assumption | omega | rfl | decide) [↓rules, rules, lit_u64, aEval_U, splice_nil, splice_zero, splice_step, gset_gset, Int.ofNat_inj, U_junk, U_cells, U_cellOk, ub_and, ub_or, ub_xor, ub_andNot, ub_add, ub_sub, ub_mul, ub_shl, ub_shr, ub_shl', ub_shr', ub_eql, ub_neq, ub_lss, ub_leq, ub_gtr, ub_geq, fillS_nil, fillS_cons, fillP_nil, fillP_cons, fillO_some, nthP_cons, zeroRow_one, aRead_at, aRead_nil, readR_row, appR_nil, appR_row, appR1_row, appR_zero, grow_row, hbn1, hbn2, hsz, hsz2, hmin, tf_tag_Field_From, tf_tag_Field_Len, ta_int, ts_int, do_buildL tu_S_uint64 tz_uint64 ts_uint64 rfl, aAppend1 tu_S_uint64 ts_uint64 tb_uint64 tv_uint64 rfl, hgb]
        refine ⟨hb, fs.length - (i + 1), by omega, i + 1, rfl, by omega, (((hk.new _).new _).drop hb).new _, n' + 1 + 1, by omega, ?_, ⟨rfl, rfl⟩, wrap_i64 (by omega) (by omega)⟩
        rw [if_pos rfl, List.take_add_one, List.getElem?_eq_getElem (by simpa using hlt)]
        simp [getF]
      · have : i = fs.length := by omega
        refine sdone_ret rfl ⟨?_, hk⟩
        rw [getsF, if_pos c]
        show Rd g' 1 (fun w => [U w]) (.slice (some ⟨b, 0, none⟩) i 1) _
        refine Rd.of_row (enc := fun w => [U w]) (fun _ => rfl) hgb ?_ ?_ ?_
        · simp; omega
        · subst this; simp [flatMap_one, List.take_of_length_le, Function.comp_def]
        · simp; omega
    · exact ⟨0, n, by simp, by simp, (Kept.refl hdom).new _, Nat.le_refl _, by simp [gset], by rw [← hvf]; rfl⟩
def putF : List (Int × Int) → List (BitVec 64) → BitVec 64 → BitVec 64 × Bool
  | f :: fs, x :: xs, w => if M f.1 f.2 >>> f.1.toNat < x then (0#64, false) else putF fs xs (w ||| x <<< f.1.toNat)
  | _, _, w => (w, true)
def putsF (fs : List (Int × Int)) (xs : List (BitVec 64)) : BitVec 64 × Bool := if goodF fs = true ∧ fs.length = xs.length then putF fs xs 0#64 else (0#64, false)
theorem Put (v vx : Value) (fs : List (Int × Int)) (xs : List (BitVec 64)) (g : AMem) (n : Nat) (hl : fs.length ≤ 1000) (hl' : xs.length ≤ 1000) (hfo : ∀ f ∈ fs, fOk f) (hv : rdF g v fs) (hx : rdW g vx xs) :
    FnC Try.prog f_tag_Put [v, vx] g n (fun _ => False) (.tuple #[U (putsF fs xs).1, .bool (putsF fs xs).2]) g n := by
  refine fnC_of_rwp t_tag_Put hm rfl fun hdom => ?_
  obtain ⟨a, e', hvf⟩ := hv.form
  obtain ⟨ax, ex, hvx⟩ := hx.form
  simp (maxSteps := 1000000) (disch := first | assumption | omega | rfl | decide) [↓rules, rules, lit_u64, aEval_U, splice_nil, splice_zero, splice_step, gset_gset, Int.ofNat_inj, U_junk, U_cells, U_cellOk, ub_and, ub_or, ub_xor, ub_andNot, ub_add, ub_sub, ub_mul, ub_shl, ub_shr, ub_shl', ub_shr', ub_eql, ub_neq, ub_lss, ub_leq, ub_gtr, ub_geq, rc_tag_Put]
  refine rcall_quiet rfl (Good v fs g n (by omega) hfo hv) ?_
  cases c : goodF fs
  · simp (maxSteps := 1000000) (disch := first | assumption | omega | rfl | decide) [↓rules, rules, lit_u64, aEval_U, splice_nil, splice_zero, splice_step, gset_gset, Int.ofNat_inj, U_junk, U_cells, U_cellOk, ub_and, ub_or, ub_xor, ub_andNot, ub_add, ub_sub, ub_mul, ub_shl, ub_shr, ub_shl', ub_shr', ub_eql, ub_neq, ub_lss, ub_leq, ub_gtr, ub_geq]
    refine done_q hdom (Kept.refl hdom) ?_ ?_; · rfl
    rw [putsF, c]; simp; rfl
  by_cases hne : fs.length = xs.length
  case neg =>
    simp (maxSteps := 1000000) (disch := first | assumption | omega | rfl | decide) [↓rules, rules, lit_u64, aEval_U, splice_nil, splice_zero, splice_step, gset_gset, Int.ofNat_inj, U_junk, U_cells, U_cellOk, ub_and, ub_or, ub_xor, ub_andNot, ub_add, ub_sub, ub_mul, ub_shl, ub_shr, ub_shl', ub_shr', ub_eql, ub_neq, ub_lss, ub_leq, ub_gtr, ub_geq, hvf, hvx, tu_S_tag_Field, tu_S_uint64, hne]
    refine done_q hdom (Kept.refl hdom) ?_ ?_; · rfl
    rw [putsF, if_neg (fun h => hne h.2)]; rfl
  simp (maxSteps := 1000000) (disch := first | assumption | omega | rfl | decide) [↓rules, rules, lit_u64, aEval_U, splice_nil, splice_zero, splice_step, gset_gset, Int.ofNat_inj, U_junk, U_cells, U_cellOk, ub_and, ub_or, ub_xor, ub_andNot, ub_add, ub_sub, ub_mul, ub_shl, ub_shr, ub_shl', ub_shr', ub_eql, ub_neq, ub_lss, ub_leq, ub_gtr, ub_geq, hvf, hvx, tu_S_tag_Field, tu_S_uint64, hne]
  rw [putsF, if_pos ⟨c, hne⟩]
  have hok := allF_good fs 0#64 c
  rw [show Value.slice a xs.length e' = v by rw [hvf, hne], ← hvx]
  refine rwp_loop (fun k l g' n' => ∃ i w, k = fs.length - i ∧ i ≤ fs.length ∧ Kept g n g' n' ∧ putF (fs.drop i) (xs.drop i) w = putF fs xs 0#64 ∧ l = [(1, vx), (6, U w), (19, v), (20, .int .i64 xs.length), (21, .int .i64 i)]) ?_ (k := fs.length) ?_
  · rintro k l g' n' ⟨i, w, rfl, hi, hk, hw, rfl⟩
    simp (maxSteps := 1000000) (disch := first | assumption | omega | rfl | decide) [↓rules, rules, lit_u64, aEval_U, splice_nil, splice_zero, splice_step, gset_gset, Int.ofNat_inj, U_junk, U_cells, U_cellOk, ub_and, ub_or, ub_xor, ub_andNot, ub_add, ub_sub, ub_mul, ub_shl, ub_shr, ub_shl', ub_shr', ub_eql, ub_neq, ub_lss, ub_leq, ub_gtr, ub_geq, rc_tag_Putl0]
    refine rcond_dec (fun hlt => ?_) (fun hlt => ?_)
    · have hlt : i < fs.length := by omega
      have hltx : i < xs.length := by omega
      obtain ⟨b1, o1, h1, hb1, h2, h3⟩ := Rd.many (enc := encF) (e := 2) (fun _ => rfl) hv hlt
      obtain ⟨b2, o2, h4, hb2, h5⟩ := hx.one hltx
      have e1 := h2 g' (hk.ext hdom) Try.prog _ ta_tag_Field ts_tag_Field
      have hp := hok fs[i] (List.getElem_mem hlt)
      have kn := hk.new (.row [.int .i64 fs[i].1, .int .i64 fs[i].2] true)
      have e2 := h5 _ (kn.ext hdom) Try.prog _ ta_uint64
      have hn := hk.le
      have hb2 := hdom b2 hb2
      have hb2n : b2 ≠ n' := by omega
      simp (maxSteps := 1000000) (disch := first | assumption | omega | rfl | decide) [↓rules, rules, lit_u64, aEval_U, splice_nil, splice_zero, splice_step, gset_gset, Int.ofNat_inj, U_junk, U_cells, U_cellOk, ub_and, ub_or, ub_xor, ub_andNot, ub_add, ub_sub, ub_mul, ub_shl, ub_shr, ub_shl', ub_shr', ub_eql, ub_neq, ub_lss, ub_leq, ub_gtr, ub_geq, h1, tu_S_tag_Field, ts_tag_Field, hlt, hltx, hne, e1, encF, tz_tag_Field, tf_tag_Field_From, ta_tag_Field]
      refine ⟨hn, ?_⟩
      rw [h4]
      simp (maxSteps := 1000000) (disch := first | assumption | omega | rfl | decide) [↓rules, rules, lit_u64, aEval_U, splice_nil, splice_zero, splice_step, gset_gset, Int.ofNat_inj, U_junk, U_cells, U_cellOk, ub_and, ub_or, ub_xor, ub_andNot, ub_add, ub_sub, ub_mul, ub_shl, ub_shr, ub_shl', ub_shr', ub_eql, ub_neq, ub_lss, ub_leq, ub_gtr, ub_geq, tf_tag_Field_From, tf_tag_Field_Len, ta_tag_Field, ts_tag_Field, tu_S_uint64, ts_uint64, hltx, e2]
      refine rcall_quiet rfl (mask _ _ (by omega) (by omega) _ _) ?_
      have hdf : fs.drop i = fs[i] :: fs.drop (i + 1) := List.drop_eq_getElem_cons hlt
      have hdx : xs.drop i = xs[i] :: xs.drop (i + 1) := List.drop_eq_getElem_cons hltx
      rw [hdf, hdx, putF] at hw
      simp (maxSteps := 1000000) (disch := first | assumption | omega | rfl | decide) [↓rules, rules, lit_u64, aEval_U, splice_nil, splice_zero, splice_step, gset_gset, Int.ofNat_inj, U_junk, U_cells, U_cellOk, ub_and, ub_or, ub_xor, ub_andNot, ub_add, ub_sub, ub_mul, ub_shl, ub_shr, ub_shl', ub_shr', ub_eql, ub_neq, ub_lss, ub_leq, ub_gtr, ub_geq, tf_tag_Field_From, tf_tag_Field_Len, ta_int, ts_int]
      refine rcond_dec (fun c2 => ?_) (fun c2 => ?_)
      · refine done_q hdom kn ?_ ?_; · rfl
        rw [if_pos c2] at hw; rw [← hw]; rfl
      · rw [if_neg c2] at hw
        simp (maxSteps := 1000000) (disch := first | assumption | omega | rfl | decide) [↓rules, rules, lit_u64, aEval_U, splice_nil, splice_zero, splice_step, gset_gset, Int.ofNat_inj, U_junk, U_cells, U_cellOk, ub_and, ub_or, ub_xor, ub_andNot, ub_add, ub_sub, ub_mul, ub_shl, ub_shr, ub_shl', ub_shr', ub_eql, ub_neq, ub_lss, ub_leq, ub_gtr, ub_geq, tf_tag_Field_From, tf_tag_Field_Len, ta_int, ts_int, ta_tag_Field, ts_tag_Field, tu_S_uint64, ts_uint64, hltx, e2]
        refine ⟨xs.length - (i + 1), by omega, i + 1, rfl, by omega, kn, _, hw, ?_⟩
        simp [wrap_i64 (show -9223372036854775808 ≤ (i : Int) + 1 by omega) (by omega)]
    · have : i = fs.length := by omega
      refine done_q hdom hk ?_ ?_; · rfl
      rw [this, List.drop_length, putF] at hw
      · rw [← hw]; rfl
      · simp
  · exact ⟨0, 0#64, by simp, by simp, Kept.refl hdom, by simp, by rfl⟩
end Go.Proofs.Ytafpgojoemcgnaa.F24

namespace Go.Proofs.Ytafpgojoemcgnaa.F24
open Go Go.Proofs Go.Proofs.YtafpgojoemcgnaaAbs
set_option maxRecDepth 100000
theorem ones_bit (b i : Nat) (hb : b ≤ 64) (hi : i < 64) : ((1#64 <<< b) - 1#64).getLsbD i = decide (i < b) := by
  have e : ((1#64 <<< b) - 1#64).toNat = 2 ^ b - 1 := by
    rw [BitVec.toNat_sub, BitVec.toNat_shiftLeft, Nat.shiftLeft_eq]
    by_cases h : b = 64
    · subst h; decide
    · have h1 : (2 : Nat) ^ b < 2 ^ 64 := Nat.pow_lt_pow_right (by decide) (by omega)
      have h2 : 0 < (2 : Nat) ^ b := Nat.pow_pos (by decide)
      simp only [BitVec.toNat_ofNat]
      have e1 : 1 % 2 ^ 64 * 2 ^ b % 2 ^ 64 = 2 ^ b := by rw [Nat.mod_eq_of_lt (a := 1) (by decide), Nat.one_mul, Nat.mod_eq_of_lt h1]
      rw [e1]; omega
  rw [BitVec.getLsbD, e, Nat.testBit_two_pow_sub_one]
theorem M_bit (p q : Int) (hp : 0 ≤ p) (hq : 0 ≤ q) (hs : p + q ≤ 64) (i : Nat) (hi : i < 64) : (M p q).getLsbD i = decide (p.toNat ≤ i ∧ i < p.toNat + q.toNat) := by
  unfold M
  rw [BitVec.getLsbD_shiftLeft]
  by_cases h : i < p.toNat
  · simp [h, hi]; omega
  · rw [ones_bit _ _ (by omega) (by omega)]
    simp only [hi, h, decide_true, decide_false, Bool.not_false, Bool.true_and, decide_eq_decide]; omega
def okS (f : Int × Int) : Prop := 0 ≤ f.1 ∧ f.1 < 64 ∧ 1 ≤ f.2 ∧ f.2 ≤ 64 - f.1
theorem getF_back (w : BitVec 64) (f : Int × Int) (h : okS f) : getF w f <<< f.1.toNat = w &&& M f.1 f.2 := by
  obtain ⟨h1, h2, h3, h4⟩ := h
  apply BitVec.eq_of_getLsbD_eq
  intro i hi
  rw [getF, BitVec.getLsbD_shiftLeft]
  by_cases h : i < f.1.toNat
  · have := M_bit f.1 f.2 h1 (by omega) (by omega) i hi
    have hz : (M f.1 f.2).getLsbD i = false := by rw [this]; simp; omega
    simp only [hi, h, decide_true, Bool.not_true, Bool.and_false, Bool.false_and, BitVec.getLsbD_and, hz]
  · simp [h, hi, show f.1.toNat + (i - f.1.toNat) = i by omega]
theorem getF_le (w : BitVec 64) (f : Int × Int) : ¬ M f.1 f.2 >>> f.1.toNat < getF w f := by
  rw [BitVec.not_lt, BitVec.le_def, getF, BitVec.toNat_ushiftRight, BitVec.toNat_ushiftRight, BitVec.toNat_and, Nat.shiftRight_eq_div_pow, Nat.shiftRight_eq_div_pow]
  exact Nat.div_le_div_right Nat.and_le_right
def orF : List (Int × Int) → BitVec 64
  | [] => 0#64
  | f :: fs => M f.1 f.2 ||| orF fs
theorem allF_val : ∀ (fs : List (Int × Int)) (w : BitVec 64), (allF fs w).2 = true → (allF fs w).1 = w ||| orF fs
  | [], w, h => by simp [allF, orF]
  | f :: fs, w, h => by
    rw [allF] at h ⊢
    split at h
    · rename_i ho
      rw [if_pos ho, allF_val fs _ h, orF, BitVec.or_assoc]
    · cases h
theorem putF_gets (w : BitVec 64) : ∀ (fs : List (Int × Int)) (acc : BitVec 64), (∀ f ∈ fs, okS f) → putF fs (fs.map (getF w)) acc = (acc ||| (w &&& orF fs), true)
  | [], acc, h => by simp [putF, orF]
  | f :: fs, acc, h => by
    rw [List.map_cons, putF, if_neg (getF_le w f), putF_gets w fs _ (fun f hf => h f (by simp [hf])), getF_back w f (h f (by simp)), orF]
    congr 1
    apply BitVec.eq_of_getLsbD_eq
    intro i hi
    simp only [BitVec.getLsbD_or, BitVec.getLsbD_and, Bool.and_or_distrib_left, Bool.or_assoc]
theorem orF_mem : ∀ (fs : List (Int × Int)) (f : Int × Int), f ∈ fs → orF fs &&& M f.1 f.2 = M f.1 f.2
  | g :: fs, f, h => by
    apply BitVec.eq_of_getLsbD_eq
    intro i hi
    cases h with
    | head => simp only [orF, BitVec.getLsbD_or, BitVec.getLsbD_and]; cases (M g.1 g.2).getLsbD i <;> simp
    | tail _ h =>
      have := congrArg (fun x => BitVec.getLsbD x i) (orF_mem fs f h)
      simp only [BitVec.getLsbD_and] at this
      simp only [orF, BitVec.getLsbD_or, BitVec.getLsbD_and]
      cases h1 : (M f.1 f.2).getLsbD i <;> simp_all
/-- All fields' bits. -/
def A (fs : List (Int × Int)) : BitVec 64 := (allF fs 0#64).1
theorem A_eq {fs : List (Int × Int)} (h : goodF fs = true) : A fs = orF fs := by rw [A, allF_val fs _ h]; simp
theorem puts_gets (w : BitVec 64) {fs : List (Int × Int)} (h : goodF fs = true) : putsF fs (getsF w fs) = (w &&& A fs, true) := by
  rw [putsF, getsF, if_pos h, if_pos ⟨h, by simp⟩, putF_gets w fs _ (allF_good fs _ h), A_eq h]; simp
theorem gets_and (w : BitVec 64) {fs : List (Int × Int)} (h : goodF fs = true) : getsF (w &&& A fs) fs = getsF w fs := by
  rw [getsF, getsF, if_pos h, if_pos h]
  apply List.map_congr_left
  intro f hf
  rw [getF, getF, BitVec.and_assoc, A_eq h, orF_mem fs f hf]
theorem split_or (w a : BitVec 64) : w &&& a ||| w &&& ~~~ a = w := by
  apply BitVec.eq_of_getLsbD_eq
  intro i hi
  simp only [BitVec.getLsbD_or, BitVec.getLsbD_and, BitVec.getLsbD_not, hi, decide_true, Bool.true_and]
  cases w.getLsbD i <;> cases a.getLsbD i <;> rfl
theorem split_and (w a : BitVec 64) : w &&& a &&& (w &&& ~~~ a) = 0#64 := by
  apply BitVec.eq_of_getLsbD_eq
  intro i hi
  simp only [BitVec.getLsbD_and, BitVec.getLsbD_not, hi, decide_true, Bool.true_and, BitVec.getLsbD_zero]
  cases w.getLsbD i <;> cases a.getLsbD i <;> rfl
theorem split_not (w a : BitVec 64) : w &&& a &&& ~~~ a = 0#64 := by
  apply BitVec.eq_of_getLsbD_eq
  intro i hi
  simp only [BitVec.getLsbD_and, BitVec.getLsbD_not, hi, decide_true, Bool.true_and, BitVec.getLsbD_zero]
  cases w.getLsbD i <;> cases a.getLsbD i <;> rfl
end Go.Proofs.Ytafpgojoemcgnaa.F24

namespace Go.Proofs.Ytafpgojoemcgnaa.F24
open Go Go.Proofs Go.Proofs.YtafpgojoemcgnaaAbs
set_option maxHeartbeats 4000000
set_option maxRecDepth 10000
/-- A thing. -/
structure Th where
  ty : Int
  bits : Int
  base : Int
  size : Int
  used : Int
  frm : Int
  badge : Int
  full : Bool
  word : BitVec 64
  d0 : BitVec 64
  d1 : BitVec 64
  d2 : BitVec 64
  d3 : BitVec 64
def cT (t : Th) : List Value := [.int .i64 t.ty, .int .i64 t.bits, .int .i64 t.base, .int .i64 t.size, .int .i64 t.used, .int .i64 t.frm, .int .i64 t.badge, .bool t.full, U t.word, U t.d0, U t.d1, U t.d2, U t.d3]
abbrev vT (t : Th) : Value := .agg #[.int .i64 t.ty, .int .i64 t.bits, .int .i64 t.base, .int .i64 t.size, .int .i64 t.used, .int .i64 t.frm, .int .i64 t.badge, .bool t.full, U t.word, U t.d0, U t.d1, U t.d2, U t.d3]
def sameT (a b : Th) : Bool := decide (a.ty = b.ty) && decide (a.bits = b.bits) && decide (a.base = b.base) && decide (a.size = b.size) && decide (a.used = b.used) && decide (a.frm = b.frm) && decide (a.badge = b.badge) && decide (a.full = b.full) && decide (a.word = b.word) && decide (a.d0 = b.d0) && decide (a.d1 = b.d1) && decide (a.d2 = b.d2) && decide (a.d3 = b.d3)
theorem sameT_iff {a b : Th} : sameT a b = true ↔ a = b := by
  cases a; cases b; simp [sameT, and_assoc]
def noT : Th := ⟨0, 0, 0, 0, 0, 0, 0, false, 0#64, 0#64, 0#64, 0#64, 0#64⟩
def ownT (t : Th) : Th :=
  if t.ty = 1 then { noT with ty := t.ty, size := t.size, used := t.used }
  else if t.ty = 2 then { noT with ty := t.ty, bits := t.bits, base := t.base }
  else if t.ty = 3 then (if t.full = true then { noT with ty := t.ty, full := true, word := t.word, badge := t.badge, frm := t.frm } else { noT with ty := t.ty })
  else if t.ty = 4 then { noT with ty := t.ty, word := t.word }
  else if t.ty = 5 then { noT with ty := t.ty, d0 := t.d0, d1 := t.d1, d2 := t.d2, d3 := t.d3 }
  else noT
def inI (n low high : Int) : Bool := decide (low ≤ n) && decide (n ≤ high)
def goodT (t : Th) : Bool := sameT (ownT t) t && (
  if t.ty = 1 then inI t.size 1 4096 && inI t.used 0 t.size
  else if t.ty = 2 then inI t.bits 1 4 && inI t.base 0 (96 - 2 ^ t.bits.toNat)
  else if t.ty = 3 then inI t.badge 0 65535 && inI t.frm 0 96
  else true)
theorem sameT_cells (a b : Th) : cellsEq (cT a) (cT b) = sameT a b := by
  simp only [cT, cellsEq_cons, cellsEq_nil, cellEq_int, cellEq_bool, cellEq_U, sameT, Bool.and_true, Bool.and_assoc]
end Go.Proofs.Ytafpgojoemcgnaa.F24

namespace Go.Proofs.Ytafpgojoemcgnaa.F24
open Go Go.Proofs Go.Proofs.YtafpgojoemcgnaaAbs
set_option maxHeartbeats 4000000
set_option maxRecDepth 100000
/-! ### Fields as numbers -/
theorem put_step {w x : BitVec 64} {p q : Nat} (hw : w.toNat < 2 ^ p) (hx : x.toNat < 2 ^ q) (hpq : p + q ≤ 64) : (w ||| x <<< p).toNat = w.toNat + x.toNat * 2 ^ p ∧ (w ||| x <<< p).toNat < 2 ^ (p + q) := by
  have h64 : (2 : Nat) ^ (p + q) ≤ 2 ^ 64 := Nat.pow_le_pow_right (by decide) hpq
  have e : x.toNat * 2 ^ p + w.toNat < 2 ^ (p + q) := by
    rw [Nat.add_comm p q, Nat.pow_add]
    have : (x.toNat + 1) * 2 ^ p ≤ 2 ^ q * 2 ^ p := Nat.mul_le_mul_right _ hx
    rw [Nat.succ_mul] at this
    omega
  have e1 : (x <<< p).toNat = x.toNat * 2 ^ p := by
    rw [BitVec.toNat_shiftLeft, Nat.shiftLeft_eq, Nat.mod_eq_of_lt (by omega)]
  have e2 : (w ||| x <<< p).toNat = w.toNat + x.toNat * 2 ^ p := by
    rw [BitVec.toNat_or, e1, Nat.or_comm, ← Nat.shiftLeft_eq, ← Nat.shiftLeft_add_eq_or_of_lt hw, Nat.shiftLeft_eq]; omega
  exact ⟨e2, by rw [e2]; omega⟩
theorem M_high (p q : Nat) (hpq : p + q ≤ 64) : (M p q >>> p).toNat = 2 ^ q - 1 := by
  have e : M p q >>> p = (1#64 <<< q) - 1#64 := by
    apply BitVec.eq_of_getLsbD_eq
    intro i hi
    rw [BitVec.getLsbD_ushiftRight, ones_bit q i (by omega) hi]
    by_cases h : p + i < 64
    · rw [M_bit p q (by omega) (by omega) (by omega) _ h]
      simp
    · rw [BitVec.getLsbD_of_ge _ _ (by omega)]
      symm; simp; omega
  rw [e, BitVec.toNat_sub, BitVec.toNat_shiftLeft, Nat.shiftLeft_eq]
  by_cases h : q = 64
  · subst h; decide
  · have h1 : (2 : Nat) ^ q < 2 ^ 64 := Nat.pow_lt_pow_right (by decide) (by omega)
    have h2 : 0 < (2 : Nat) ^ q := Nat.pow_pos (by decide)
    simp only [BitVec.toNat_ofNat]
    have e1 : 1 % 2 ^ 64 * 2 ^ q % 2 ^ 64 = 2 ^ q := by rw [Nat.mod_eq_of_lt (a := 1) (by decide), Nat.one_mul, Nat.mod_eq_of_lt h1]
    rw [e1]; omega
theorem putF_ok {p q : Nat} {fs : List (Int × Int)} {x : BitVec 64} {xs : List (BitVec 64)} {w : BitVec 64} (hx : x.toNat < 2 ^ q) (hpq : p + q ≤ 64) : putF (((p : Int), (q : Int)) :: fs) (x :: xs) w = putF fs xs (w ||| x <<< p) := by
  rw [putF, if_neg]
  · rfl
  · simp only [Int.toNat_natCast]
    rw [BitVec.lt_def, M_high p q hpq]; omega
theorem getF_nat (w : BitVec 64) (p q : Nat) (hpq : p + q ≤ 64) : (getF w ((p : Int), (q : Int))).toNat = w.toNat / 2 ^ p % 2 ^ q := by
  have e : getF w ((p : Int), (q : Int)) = (w >>> p) &&& ((1#64 <<< q) - 1#64) := by
    unfold getF
    apply BitVec.eq_of_getLsbD_eq
    intro i hi
    simp only [Int.toNat_natCast]
    rw [BitVec.getLsbD_ushiftRight, BitVec.getLsbD_and, BitVec.getLsbD_and, BitVec.getLsbD_ushiftRight, ones_bit q i (by omega) hi]
    by_cases h : p + i < 64
    · rw [M_bit p q (by omega) (by omega) (by omega) _ h]
      simp
    · rw [BitVec.getLsbD_of_ge _ _ (by omega)]
      simp
  have e1 : ((1#64 <<< q) - 1#64).toNat = 2 ^ q - 1 := by
    have := M_high 0 q (by omega)
    simpa [M] using this
  rw [e, BitVec.toNat_and, BitVec.toNat_ushiftRight, e1, Nat.and_two_pow_sub_one_eq_mod, Nat.shiftRight_eq_div_pow]
def bytesF : List (Int × Int) := [(0, 8), (8, 8), (16, 8), (24, 8), (32, 8)]
def pairsF : List (Int × Int) := [(0, 16), (16, 16), (32, 16)]
theorem good_bytes : goodF bytesF = true := by decide +kernel
theorem good_pairs : goodF pairsF = true := by decide +kernel
theorem mv1_flat (n : Nat) {v : Value} (h : flatV v = true) : mv1 n v = v := by
  unfold mv1
  split
  · cases h
  · cases h
  · cases h
  · rfl
noncomputable def runOf (f : FuncId) (k d : Nat) : Option XR := xfn Try.prog tab k d f [] (fun _ => none) 0
theorem fields_run {f : FuncId} {k d b m : Nat} {fs : List (Int × Int)} (h : (runOf f k d).isSome = true)
    (hv : ((runOf f k d).map (·.v)) = some (.slice (some ⟨b, 0, none⟩) fs.length 2)) (hg : ((runOf f k d).bind fun r => r.g b) = some (.row (fs.flatMap encF) true))
    (hall : ((runOf f k d).map fun r => (List.range r.n).all (fun i => match r.g i with | some o => okMvO o | none => true)) = some true) (n : Nat) :
    FnS Try.prog f [] (fun _ => none) n (fun _ => False) fun v g' n' => rdF g' v fs ∧ Kept (fun _ => none) n g' n' := by
  cases hr : runOf f k d with
  | none => rw [hr] at h; cases h
  | some r =>
    rw [hr] at hv hg hall
    simp only [Option.map_some, Option.some.injEq, Option.bind_some] at hv hg hall
    obtain ⟨v, g', n', h1, rfl, rfl, rfl, h5⟩ := FnS.moved (xfn_ok hm tabOk k d) hr rfl (by rw [hv]; rfl) hall n
    refine ⟨_, _, _, h1, ?_, h5⟩
    rw [hv]
    show Rd _ 2 encF (.slice (some ⟨n + b, 0, none⟩) fs.length 2) fs
    refine Rd.of_row (e := 2) (enc := encF) (fun _ => rfl) (cs := fs.flatMap encF) (rw_ := true) ?_ ?_ ?_ rfl
    · rw [mvG_at, hg]
      simp only [Option.map_some, mvO, Option.some.injEq, AObj.row.injEq, and_true]
      have : ∀ l : List Value, l.all flatV = true → l.map (mv1 n) = l := by
        intro l
        induction l with
        | nil => intro _; rfl
        | cons x l ih =>
          intro h
          simp only [List.all_cons, Bool.and_eq_true] at h
          rw [List.map_cons, ih h.2]
          congr 1
          exact mv1_flat n h.1
      refine this _ ?_
      rw [List.all_eq_true]
      intro x hx
      rw [List.mem_flatMap] at hx
      obtain ⟨f, _, hx⟩ := hx
      simp only [encF, List.mem_cons, List.not_mem_nil, or_false] at hx
      rcases hx with rfl | rfl <;> rfl
    · simp [flat_length (enc := encF) (e := 2) (fun _ => rfl)]
    · simp [flat_length (enc := encF) (e := 2) (fun _ => rfl), List.take_of_length_le]
/-! ### A thing's words -/
def fullI (t : Th) : Int := if t.full = true then 1 else 0
def numA (t : Th) : Int := t.ty + t.bits * 256 + t.base * 65536 + fullI t * 16777216 + t.frm * 4294967296
def numB (t : Th) : Int := t.size + t.used * 65536 + t.badge * 4294967296
def wordsT (t : Th) : List (BitVec 64) := [BitVec.ofInt 64 (numA t), BitVec.ofInt 64 (numB t), t.word, t.d0, t.d1, t.d2, t.d3, 0#64]
def putT (t : Th) : List (BitVec 64) := if goodT t = true then wordsT t else []
structure RangeT (t : Th) : Prop where
  ty : 0 ≤ t.ty ∧ t.ty ≤ 5
  bits : 0 ≤ t.bits ∧ t.bits ≤ 4
  base : 0 ≤ t.base ∧ t.base ≤ 94
  size : 0 ≤ t.size ∧ t.size ≤ 4096
  used : 0 ≤ t.used ∧ t.used ≤ 4096
  frm : 0 ≤ t.frm ∧ t.frm ≤ 96
  badge : 0 ≤ t.badge ∧ t.badge ≤ 65535
theorem goodT_range {t : Th} (h : goodT t = true) : RangeT t := by
  unfold goodT at h
  simp only [Bool.and_eq_true] at h
  obtain ⟨h1, h2⟩ := h
  rw [sameT_iff] at h1
  have e1 := congrArg Th.bits h1
  have e2 := congrArg Th.base h1
  have e3 := congrArg Th.size h1
  have e4 := congrArg Th.used h1
  have e5 := congrArg Th.frm h1
  have e6 := congrArg Th.badge h1
  have e7 := congrArg Th.ty h1
  clear h1
  by_cases c1 : t.ty = 1
  · rw [if_pos c1] at h2
    simp [ownT, c1, noT] at e1 e2 e3 e4 e5 e6 e7
    simp only [inI, Bool.and_eq_true, decide_eq_true_eq] at h2
    constructor <;> omega
  by_cases c2 : t.ty = 2
  · rw [if_neg c1, if_pos c2] at h2
    simp [ownT, c1, c2, noT] at e1 e2 e3 e4 e5 e6 e7
    simp only [inI, Bool.and_eq_true, decide_eq_true_eq] at h2
    have h3 : (2 : Int) ≤ 2 ^ t.bits.toNat := by
      have : t.bits = 1 ∨ t.bits = 2 ∨ t.bits = 3 ∨ t.bits = 4 := by omega
      rcases this with e | e | e | e <;> rw [e] <;> decide
    constructor <;> omega
  by_cases c3 : t.ty = 3
  · rw [if_neg c1, if_neg c2, if_pos c3] at h2
    simp only [inI, Bool.and_eq_true, decide_eq_true_eq] at h2
    cases hf : t.full <;> simp [ownT, c1, c2, c3, hf, noT] at e1 e2 e3 e4 e5 e6 e7 <;> constructor <;> omega
  by_cases c4 : t.ty = 4
  · simp [ownT, c1, c2, c3, c4, noT] at e1 e2 e3 e4 e5 e6 e7
    constructor <;> omega
  by_cases c5 : t.ty = 5
  · simp [ownT, c1, c2, c3, c4, c5, noT] at e1 e2 e3 e4 e5 e6 e7
    constructor <;> omega
  simp [ownT, c1, c2, c3, c4, c5, noT] at e1 e2 e3 e4 e5 e6 e7
  constructor <;> omega
theorem ofInt_nat {v : Int} (h1 : 0 ≤ v) (h2 : v < 18446744073709551616) : (BitVec.ofInt 64 v).toNat = v.toNat := by
  rw [BitVec.toNat_ofInt]; omega
def fullW (t : Th) : BitVec 64 := if t.full = true then 1#64 else 0#64
theorem puts_A {t : Th} (h : RangeT t) : putsF bytesF [BitVec.ofInt 64 t.ty, BitVec.ofInt 64 t.bits, BitVec.ofInt 64 t.base, fullW t, BitVec.ofInt 64 t.frm] = (BitVec.ofInt 64 (numA t), true) := by
  obtain ⟨⟨a1, a2⟩, ⟨b1, b2⟩, ⟨c1, c2⟩, _, _, ⟨f1, f2⟩, _⟩ := h
  have ea := ofInt_nat a1 (by omega)
  have eb := ofInt_nat b1 (by omega)
  have ec := ofInt_nat c1 (by omega)
  have ef := ofInt_nat f1 (by omega)
  have eu : (fullW t).toNat = (fullI t).toNat := by unfold fullW fullI; split <;> rfl
  have hu : 0 ≤ fullI t ∧ fullI t ≤ 1 := by unfold fullI; split <;> omega
  obtain ⟨p1, q1⟩ := put_step (w := 0#64) (x := BitVec.ofInt 64 t.ty) (p := 0) (q := 8) (by decide) (by omega) (by decide)
  obtain ⟨p2, q2⟩ := put_step (x := BitVec.ofInt 64 t.bits) (p := 8) (q := 8) q1 (by omega) (by decide)
  obtain ⟨p3, q3⟩ := put_step (x := BitVec.ofInt 64 t.base) (p := 16) (q := 8) q2 (by omega) (by decide)
  obtain ⟨p4, q4⟩ := put_step (x := fullW t) (p := 24) (q := 8) q3 (by omega) (by decide)
  obtain ⟨p5, q5⟩ := put_step (x := BitVec.ofInt 64 t.frm) (p := 32) (q := 8) q4 (by omega) (by decide)
  rw [putsF, if_pos ⟨good_bytes, rfl⟩]
  refine (putF_ok (p := 0) (q := 8) (by omega) (by decide)).trans ?_
  refine (putF_ok (p := 8) (q := 8) (by omega) (by decide)).trans ?_
  refine (putF_ok (p := 16) (q := 8) (by omega) (by decide)).trans ?_
  refine (putF_ok (p := 24) (q := 8) (by omega) (by decide)).trans ?_
  refine (putF_ok (p := 32) (q := 8) (by omega) (by decide)).trans ?_
  show (_, true) = (_, true)
  congr 1
  apply BitVec.eq_of_toNat_eq
  have eN := ofInt_nat (v := numA t) (by unfold numA; omega) (by unfold numA; omega)
  rw [p5, p4, p3, p2, p1, eN]
  unfold numA
  simp only [BitVec.toNat_ofNat]
  omega
theorem puts_B {t : Th} (h : RangeT t) : putsF pairsF [BitVec.ofInt 64 t.size, BitVec.ofInt 64 t.used, BitVec.ofInt 64 t.badge] = (BitVec.ofInt 64 (numB t), true) := by
  obtain ⟨_, _, _, ⟨a1, a2⟩, ⟨b1, b2⟩, _, ⟨c1, c2⟩⟩ := h
  have ea := ofInt_nat a1 (by omega)
  have eb := ofInt_nat b1 (by omega)
  have ec := ofInt_nat c1 (by omega)
  obtain ⟨p1, q1⟩ := put_step (w := 0#64) (x := BitVec.ofInt 64 t.size) (p := 0) (q := 16) (by decide) (by omega) (by decide)
  obtain ⟨p2, q2⟩ := put_step (x := BitVec.ofInt 64 t.used) (p := 16) (q := 16) q1 (by omega) (by decide)
  obtain ⟨p3, q3⟩ := put_step (x := BitVec.ofInt 64 t.badge) (p := 32) (q := 16) q2 (by omega) (by decide)
  rw [putsF, if_pos ⟨good_pairs, rfl⟩]
  refine (putF_ok (p := 0) (q := 16) (by omega) (by decide)).trans ?_
  refine (putF_ok (p := 16) (q := 16) (by omega) (by decide)).trans ?_
  refine (putF_ok (p := 32) (q := 16) (by omega) (by decide)).trans ?_
  show (_, true) = (_, true)
  congr 1
  apply BitVec.eq_of_toNat_eq
  have eN := ofInt_nat (v := numB t) (by unfold numB; omega) (by unfold numB; omega)
  rw [p3, p2, p1, eN]
  unfold numB
  simp only [BitVec.toNat_ofNat]
  omega
theorem vT_load {g : AMem} {b : Nat} {t : Th} (h : g b = some (.row (cT t) true)) : g b = some (.row [.int .i64 t.ty, .int .i64 t.bits, .int .i64 t.base, .int .i64 t.size, .int .i64 t.used, .int .i64 t.frm, .int .i64 t.badge, .bool t.full, U t.word, U t.d0, U t.d1, U t.d2, U t.d3] true) := h
theorem rd_row {g : AMem} {b : Nat} {ws : List (BitVec 64)} {m : Nat} (h : g b = some (.row (ws.map U) true)) (hm : m = ws.length) : rdW g (.slice (some ⟨b, 0, none⟩) m 1) ws := by
  refine Rd.of_row (e := 1) (enc := fun w => [U w]) (fun _ => rfl) h (by simp) ?_ hm
  rw [flatMap_one, List.drop_zero, Nat.mul_one, List.take_of_length_le (by simp)]
theorem fo_bytes : ∀ f ∈ bytesF, fOk f := by
  intro f hf
  simp only [bytesF, List.mem_cons, List.not_mem_nil, or_false] at hf
  rcases hf with rfl | rfl | rfl | rfl | rfl <;> unfold fOk <;> decide
theorem fo_pairs : ∀ f ∈ pairsF, fOk f := by
  intro f hf
  simp only [pairsF, List.mem_cons, List.not_mem_nil, or_false] at hf
  rcases hf with rfl | rfl | rfl <;> unfold fOk <;> decide
end Go.Proofs.Ytafpgojoemcgnaa.F24

namespace Go.Proofs.Ytafpgojoemcgnaa.F24
open Go Go.Proofs Go.Proofs.YtafpgojoemcgnaaAbs
set_option maxHeartbeats 8000000
set_option maxRecDepth 100000
/-- Some bits of a word as a number. -/
def fld (w : BitVec 64) (p q : Nat) : Int := ((w.toNat / 2 ^ p % 2 ^ q : Nat) : Int)
def decT (a b c d e f g : BitVec 64) : Th := ⟨fld a 0 8, fld a 8 8, fld a 16 8, fld b 0 16, fld b 16 16, fld a 32 8, fld b 32 16, decide (fld a 24 8 = 1), c, d, e, f, g⟩
def getT : List (BitVec 64) → Th × Bool
  | [a, b, c, d, e, f, g, h] => if putT (decT a b c d e f g) = [a, b, c, d, e, f, g, h] then (decT a b c d e f g, true) else (noT, false)
  | _ => (noT, false)
theorem getT_len {l : List (BitVec 64)} (h : l.length ≠ 8) : getT l = (noT, false) := by
  unfold getT
  split
  · simp at h
  · rfl
theorem fld_wrap (w : BitVec 64) (p q : Nat) (hpq : p + q ≤ 64) (hq : q ≤ 32) : IntKind.i64.wrap (uI (getF w ((p : Int), (q : Int)))) = fld w p q := by
  have h : w.toNat / 2 ^ p % 2 ^ q < 4294967296 := Nat.lt_of_lt_of_le (Nat.mod_lt _ (Nat.pow_pos (by decide))) (Nat.le_trans (Nat.pow_le_pow_right (by decide) hq) (by decide))
  unfold uI fld
  rw [getF_nat w p q hpq, wrap_i64 (by omega) (by omega)]
theorem fld_one (w : BitVec 64) (p q : Nat) (hpq : p + q ≤ 64) : decide (getF w ((p : Int), (q : Int)) = 1#64) = decide (fld w p q = 1) := by
  rw [decide_eq_decide]
  unfold fld
  rw [← getF_nat w p q hpq]
  constructor
  · intro h; rw [h]; rfl
  · intro h; apply BitVec.eq_of_toNat_eq; simpa using (by omega : (getF w ((p : Int), (q : Int))).toNat = 1)
theorem list8 {α : Type} (l : List α) (h : l.length = 8) : ∃ a b c d e f g h, l = [a, b, c, d, e, f, g, h] := by
  match l, h with
  | [a, b, c, d, e, f, g, h], _ => exact ⟨a, b, c, d, e, f, g, h, rfl⟩
theorem decide_dec {α : Type} (x y : List (BitVec 64)) (a b : α) : (if x = y then a else b) = if decide (x = y) = true then a else b := by simp
theorem putT_len (t : Th) : (putT t).length ≤ 8 := by
  unfold putT; split <;> simp [wordsT]
end Go.Proofs.Ytafpgojoemcgnaa.F24

namespace Go.Proofs.Ytafpgojoemcgnaa.F24
open Go Go.Proofs Go.Proofs.YtafpgojoemcgnaaAbs
set_option maxHeartbeats 4000000
set_option maxRecDepth 100000
/-- A write. -/
structure Wr where
  p : Int
  v : BitVec 64
def cW (w : Wr) : List Value := [.int .i64 w.p, U w.v]
abbrev rdX (g : AMem) (v : Value) (ws : List Wr) : Prop := Rd g 2 cW v ws
def chainW (lim : Int) : Int → List Wr → Bool
  | _, [] => true
  | a, w :: ws => decide (a < w.p) && decide (w.p < lim) && chainW lim w.p ws
def goodW (a b c : Int) (ws : List Wr) : Bool := goodG a b c && decide (ws.length ≤ 600) && chainW (copyG a b c) (slotG a b c 0 - 1) ws
theorem wset_Good (a b c : Int) (v : Value) (ws : List Wr) (g : AMem) (n : Nat) (hl : ws.length < 4611686018427387904) (hv : rdX g v ws) : FnC Try.prog f_wset_Good [gv a b c, v] g n (fun _ => False) (.bool (goodW a b c ws)) g n := by
  refine fnC_of_rwp t_wset_Good hm rfl fun hdom => ?_
  obtain ⟨va, ve, hvf⟩ := hv.form
  have kn := (Kept.refl hdom).new (.row [.int .i64 a, .int .i64 b, .int .i64 c] true)
  simp (maxSteps := 1000000) (disch := first | assumption | omega | rfl | decide | simp only [fitsR, Bool.and_self]) [↓rules, rules, ↓rulesDp, rulesDq, lit_u64, Int.ofNat_inj, rc_wset_Good, q_int, q_bool, q_uint64, q_geo_Geo, q_S_wset_Write, q_wset_Write]
  refine rcall_quiet rfl (GoodG _ _ _ _ _) ?_
  cases hg : goodG a b c
  · simp (maxSteps := 1000000) (disch := first | assumption | omega | rfl | decide | simp only [fitsR, Bool.and_self]) [↓rules, rules, ↓rulesDp, rulesDq, lit_u64, Int.ofNat_inj, q_int, q_bool, q_uint64, q_geo_Geo, q_S_wset_Write, q_wset_Write]
    refine done_q hdom kn ?_ ?_; · rfl
    rw [goodW, hg]; rfl
  by_cases h6 : 600 < (ws.length : Int)
  · simp (maxSteps := 1000000) (disch := first | assumption | omega | rfl | decide | simp only [fitsR, Bool.and_self]) [↓rules, rules, ↓rulesDp, rulesDq, lit_u64, Int.ofNat_inj, q_int, q_bool, q_uint64, q_geo_Geo, q_S_wset_Write, q_wset_Write, hvf, h6]
    refine done_q hdom kn ?_ ?_; · rfl
    rw [goodW, hg, decide_eq_false (by omega)]; rfl
  simp (maxSteps := 1000000) (disch := first | assumption | omega | rfl | decide | simp only [fitsR, Bool.and_self]) [↓rules, rules, ↓rulesDp, rulesDq, lit_u64, Int.ofNat_inj, q_int, q_bool, q_uint64, q_geo_Geo, q_S_wset_Write, q_wset_Write, hvf, h6]
  refine rcall_quiet rfl (SlotG _ _ _ _ _ _) ?_
  have ok := goodG_iff.1 hg
  have hs : 0 ≤ slotG a b c 0 ∧ slotG a b c 0 ≤ 10000 := by rw [slotG]; split <;> omega
  have e0 : IntKind.i64.wrap (slotG a b c 0 - 1) = slotG a b c 0 - 1 := wrap_i64 (by omega) (by omega)
  simp (maxSteps := 1000000) (disch := first | assumption | omega | rfl | decide | simp only [fitsR, Bool.and_self]) [↓rules, rules, ↓rulesDp, rulesDq, lit_u64, Int.ofNat_inj, q_int, q_bool, q_uint64, q_geo_Geo, q_S_wset_Write, q_wset_Write, e0]
  rw [← hvf]
  have hgo : goodW a b c ws = chainW (copyG a b c) (slotG a b c 0 - 1) ws := by rw [goodW, hg, decide_eq_true (by omega)]; rfl
  rw [hgo]
  refine rwp_loop (fun k l g' n' => ∃ i p, k = ws.length - i ∧ i ≤ ws.length ∧ Kept g n g' n' ∧ n < n' ∧ g' n = some (.row [.int .i64 a, .int .i64 b, .int .i64 c] true) ∧ chainW (copyG a b c) p (ws.drop i) = chainW (copyG a b c) (slotG a b c 0 - 1) ws ∧ l = [(2, .pointer (some ⟨n, 0, none⟩)), (5, .int .i64 p), (19, v), (20, .int .i64 ws.length), (21, .int .i64 i)]) ?_ (k := ws.length) ?_
  · rintro k l g' n' ⟨i, p, rfl, hi, hk, hn0, hrow, hw, rfl⟩
    simp (maxSteps := 1000000) (disch := first | assumption | omega | rfl | decide | simp only [fitsR, Bool.and_self]) [↓rules, rules, ↓rulesDp, rulesDq, lit_u64, Int.ofNat_inj, rc_wset_Goodl0]
    refine rcond_dec (fun hlt => ?_) (fun hlt => ?_)
    · have hlt : i < ws.length := by omega
      obtain ⟨b1, o1, h1, hb1, h2, h3⟩ := Rd.many (enc := cW) (e := 2) (fun _ => rfl) hv hlt
      have e1 := h2 g' (hk.ext hdom) Try.prog _ ta_wset_Write ts_wset_Write
      have hd : ws.drop i = ws[i] :: ws.drop (i + 1) := List.drop_eq_getElem_cons hlt
      rw [hd, chainW] at hw
      have hn := hk.le
      have hnn : n ≠ n' := by omega
      have kn := hk.new (.row (cW ws[i]) true)
      by_cases c1 : ws[i].p ≤ p
      · simp (maxSteps := 1000000) (disch := first | assumption | omega | rfl | decide | simp only [fitsR, Bool.and_self]) [↓rules, rules, ↓rulesDp, rulesDq, lit_u64, Int.ofNat_inj, q_int, q_bool, q_uint64, q_geo_Geo, q_S_wset_Write, q_wset_Write, h1, hlt, e1, cW, c1]
        refine ⟨hn, ?_⟩
        refine done_q hdom kn ?_ ?_; · rfl
        rw [← hw, decide_eq_false (by omega)]; rfl
      simp (maxSteps := 1000000) (disch := first | assumption | omega | rfl | decide | simp only [fitsR, Bool.and_self]) [↓rules, rules, ↓rulesDp, rulesDq, lit_u64, Int.ofNat_inj, q_int, q_bool, q_uint64, q_geo_Geo, q_S_wset_Write, q_wset_Write, h1, hlt, e1, cW, c1]
      refine ⟨hn, ?_⟩
      simp only [hnn, if_false, hrow]
      simp (maxSteps := 1000000) (disch := first | assumption | omega | rfl | decide | simp only [fitsR, Bool.and_self]) [↓rules, rules, ↓rulesDp, rulesDq, lit_u64, Int.ofNat_inj, q_int, q_bool, q_uint64, q_geo_Geo, q_S_wset_Write, q_wset_Write]
      refine rcall_quiet rfl (CopyG _ _ _ _ _) ?_
      by_cases c2 : copyG a b c ≤ ws[i].p
      · simp (maxSteps := 1000000) (disch := first | assumption | omega | rfl | decide | simp only [fitsR, Bool.and_self]) [↓rules, rules, ↓rulesDp, rulesDq, lit_u64, Int.ofNat_inj, q_int, q_bool, q_uint64, q_geo_Geo, q_S_wset_Write, q_wset_Write, c2]
        refine done_q hdom kn ?_ ?_; · rfl
        rw [← hw, decide_eq_true (by omega), decide_eq_false (by omega)]; rfl
      simp (maxSteps := 1000000) (disch := first | assumption | omega | rfl | decide | simp only [fitsR, Bool.and_self]) [↓rules, rules, ↓rulesDp, rulesDq, lit_u64, Int.ofNat_inj, q_int, q_bool, q_uint64, q_geo_Geo, q_S_wset_Write, q_wset_Write, c2]
      rw [decide_eq_true (show p < ws[i].p by omega), decide_eq_true (show ws[i].p < copyG a b c by omega)] at hw
      refine ⟨ws.length - (i + 1), by omega, i + 1, rfl, by omega, kn, by omega, ?_⟩
      simp only [hnn, if_false, hrow]
      exact ⟨trivial, ws[i].p, by simpa using hw, rfl, wrap_i64 (by omega) (by omega)⟩
    · refine done_q hdom hk ?_ ?_; · rfl
      have : i = ws.length := by omega
      subst this
      rw [List.drop_length, chainW] at hw
      rw [← hw]; rfl
  · exact ⟨0, slotG a b c 0 - 1, by simp, by simp, kn, by omega, by simp [gset], by simp, by rfl⟩
end Go.Proofs.Ytafpgojoemcgnaa.F24

namespace Go.Proofs.Ytafpgojoemcgnaa.F24
open Go Go.Proofs Go.Proofs.YtafpgojoemcgnaaAbs
set_option maxHeartbeats 4000000
set_option maxRecDepth 100000
theorem rdX_at {g : AMem} {v : Value} {ws : List Wr} (h : rdX g v ws) {i : Nat} (hi : i < ws.length) :
    ∃ b o, v = .slice (some ⟨b, o, none⟩) ws.length 2 ∧ g b ≠ none ∧ ∀ g2, Ext g g2 → ∀ (P : Program) (t : TypeId), tagg P t = some false →
      aLoad P g2 t (.pointer (some ⟨b, o + i * 2, none⟩)) = some (.int .i64 ws[i].p) ∧ aLoad P g2 t (.pointer (some ⟨b, o + i * 2 + 1, none⟩)) = some (U ws[i].v) := by
  obtain ⟨b, o, cs, r, h1, h2, h3, h4, h5⟩ := h.elem (fun _ => rfl) hi
  refine ⟨b, o, h1, by rw [h2]; simp, fun g2 hx P t ht => ?_⟩
  have hg := hx b _ h2
  have k0 : (cs.drop (o + i * 2))[0]? = some (.int .i64 ws[i].p) := by
    have : ((cs.drop (o + i * 2)).take 2)[0]? = some (.int .i64 ws[i].p) := by rw [h4]; rfl
    simpa [List.getElem?_take] using this
  have k1 : (cs.drop (o + i * 2))[1]? = some (U ws[i].v) := by
    have : ((cs.drop (o + i * 2)).take 2)[1]? = some (U ws[i].v) := by rw [h4]; rfl
    simpa [List.getElem?_take] using this
  rw [List.getElem?_drop, nth_eq] at k0 k1
  exact ⟨load_elem1 hg ht k0, load_elem1 hg ht k1⟩
theorem GoodWrites (a b c : Int) (v : Value) (ws : List Wr) (g : AMem) (n : Nat) (hl : ws.length < 4611686018427387904) (hv : rdX g v ws) : FnC Try.prog f_reeveref22_GoodWrites [gv a b c, v] g n (fun _ => False) (.bool (goodW a b c ws)) g n := by
  refine fnC_of_rwp t_reeveref22_GoodWrites hm rfl fun hdom => ?_
  obtain ⟨va, ve, hvf⟩ := hv.form
  have kn := (Kept.refl hdom).new (.row [.int .i64 a, .int .i64 b, .int .i64 c] true)
  simp (maxSteps := 1000000) (disch := first | assumption | omega | rfl | decide | simp only [fitsR, Bool.and_self]) [↓rules, rules, ↓rulesDp, rulesDq, lit_u64, Int.ofNat_inj, rc_reeveref22_GoodWrites, q_int, q_bool, q_uint64, q_S_reeveref22_Write, q_reeveref1_Geo, q_reeveref22_Write]
  refine rcall_quiet rfl (GoodR _ _ _ _ _) ?_
  cases hg : goodG a b c
  · simp (maxSteps := 1000000) (disch := first | assumption | omega | rfl | decide | simp only [fitsR, Bool.and_self]) [↓rules, rules, ↓rulesDp, rulesDq, lit_u64, Int.ofNat_inj, q_int, q_bool, q_uint64, q_S_reeveref22_Write, q_reeveref1_Geo, q_reeveref22_Write]
    refine done_q hdom kn ?_ ?_; · rfl
    rw [goodW, hg]; rfl
  by_cases h6 : 600 < (ws.length : Int)
  · simp (maxSteps := 1000000) (disch := first | assumption | omega | rfl | decide | simp only [fitsR, Bool.and_self]) [↓rules, rules, ↓rulesDp, rulesDq, lit_u64, Int.ofNat_inj, q_int, q_bool, q_uint64, q_S_reeveref22_Write, q_reeveref1_Geo, q_reeveref22_Write, hvf, h6]
    refine done_q hdom kn ?_ ?_; · rfl
    rw [goodW, hg, decide_eq_false (by omega)]; rfl
  simp (maxSteps := 1000000) (disch := first | assumption | omega | rfl | decide | simp only [fitsR, Bool.and_self]) [↓rules, rules, ↓rulesDp, rulesDq, lit_u64, Int.ofNat_inj, q_int, q_bool, q_uint64, q_S_reeveref22_Write, q_reeveref1_Geo, q_reeveref22_Write, hvf, h6]
  refine rcall_quiet rfl (SlotR _ _ _ _ _ _) ?_
  have ok := goodG_iff.1 hg
  have hs : 0 ≤ slotG a b c 0 ∧ slotG a b c 0 ≤ 10000 := by rw [slotG]; split <;> omega
  have e0 : IntKind.i64.wrap (slotG a b c 0 - 1) = slotG a b c 0 - 1 := wrap_i64 (by omega) (by omega)
  simp (maxSteps := 1000000) (disch := first | assumption | omega | rfl | decide | simp only [fitsR, Bool.and_self]) [↓rules, rules, ↓rulesDp, rulesDq, lit_u64, Int.ofNat_inj, q_int, q_bool, q_uint64, q_S_reeveref22_Write, q_reeveref1_Geo, q_reeveref22_Write, e0]
  rw [← hvf]
  have hgo : goodW a b c ws = chainW (copyG a b c) (slotG a b c 0 - 1) ws := by rw [goodW, hg, decide_eq_true (by omega)]; rfl
  rw [hgo]
  have rn : Rd (gset g n (some (.row [.int .i64 a, .int .i64 b, .int .i64 c] true))) 2 cW v ws := hv.ext (kn.ext hdom)
  refine rwp_loop (fun k l g' n' => ∃ i p, k = ws.length - i ∧ i ≤ ws.length ∧ g' = gset g n (some (.row [.int .i64 a, .int .i64 b, .int .i64 c] true)) ∧ n' = n + 1 ∧ chainW (copyG a b c) p (ws.drop i) = chainW (copyG a b c) (slotG a b c 0 - 1) ws ∧ l = [(1, v), (2, .pointer (some ⟨n, 0, none⟩)), (5, .int .i64 p), (6, .int .i64 i)]) ?_ (k := ws.length) ?_
  · rintro k l g' n' ⟨i, p, rfl, hi, hg', rfl, hw, rfl⟩
    have hrow : g' n = some (.row [.int .i64 a, .int .i64 b, .int .i64 c] true) := by rw [hg']; simp [gset]
    rw [← hg'] at rn kn
    simp (maxSteps := 1000000) (disch := first | assumption | omega | rfl | decide | simp only [fitsR, Bool.and_self]) [↓rules, rules, ↓rulesDp, rulesDq, lit_u64, Int.ofNat_inj, rc_reeveref22_GoodWritesl0, q_int, q_bool, q_uint64, q_S_reeveref22_Write, q_reeveref1_Geo, q_reeveref22_Write, hvf]
    rw [← hvf]
    refine rcond_dec (fun hlt => ?_) (fun hlt => ?_)
    · have hlt : i < ws.length := by omega
      obtain ⟨b1, o1, h1, hb1, h2⟩ := rdX_at rn hlt
      have e1 := (h2 g' (Ext.refl _) Try.prog _ ta_int).1
      have hd : ws.drop i = ws[i] :: ws.drop (i + 1) := List.drop_eq_getElem_cons hlt
      rw [hd, chainW] at hw
      by_cases c1 : ws[i].p ≤ p
      · simp (maxSteps := 1000000) (disch := first | assumption | omega | rfl | decide | simp only [fitsR, Bool.and_self]) [↓rules, rules, ↓rulesDp, rulesDq, lit_u64, Int.ofNat_inj, q_int, q_bool, q_uint64, q_S_reeveref22_Write, q_reeveref1_Geo, q_reeveref22_Write, h1, hlt, e1, c1]
        refine done_q hdom kn ?_ ?_; · rfl
        rw [← hw, decide_eq_false (by omega)]; rfl
      simp (maxSteps := 1000000) (disch := first | assumption | omega | rfl | decide | simp only [fitsR, Bool.and_self]) [↓rules, rules, ↓rulesDp, rulesDq, lit_u64, Int.ofNat_inj, q_int, q_bool, q_uint64, q_S_reeveref22_Write, q_reeveref1_Geo, q_reeveref22_Write, h1, hlt, e1, c1, hrow]
      refine rcall_quiet rfl (CopyR _ _ _ _ _) ?_
      by_cases c2 : copyG a b c ≤ ws[i].p
      · simp (maxSteps := 1000000) (disch := first | assumption | omega | rfl | decide | simp only [fitsR, Bool.and_self]) [↓rules, rules, ↓rulesDp, rulesDq, lit_u64, Int.ofNat_inj, q_int, q_bool, q_uint64, q_S_reeveref22_Write, q_reeveref1_Geo, q_reeveref22_Write, c2]
        refine done_q hdom kn ?_ ?_; · rfl
        rw [← hw, decide_eq_true (by omega), decide_eq_false (by omega)]; rfl
      simp (maxSteps := 1000000) (disch := first | assumption | omega | rfl | decide | simp only [fitsR, Bool.and_self]) [↓rules, rules, ↓rulesDp, rulesDq, lit_u64, Int.ofNat_inj, q_int, q_bool, q_uint64, q_S_reeveref22_Write, q_reeveref1_Geo, q_reeveref22_Write, c2, hlt, e1]
      rw [decide_eq_true (show p < ws[i].p by omega), decide_eq_true (show ws[i].p < copyG a b c by omega)] at hw
      refine ⟨ws.length - (i + 1), by omega, i + 1, rfl, by omega, ?_⟩
      exact ⟨hg', ws[i].p, by simpa using hw, rfl, wrap_i64 (by omega) (by omega)⟩
    · refine done_q hdom kn ?_ ?_; · rfl
      have : i = ws.length := by omega
      subst this
      rw [List.drop_length, chainW] at hw
      rw [← hw]; rfl
  · exact ⟨0, slotG a b c 0 - 1, by simp, by simp, rfl, rfl, by simp, by rfl⟩
end Go.Proofs.Ytafpgojoemcgnaa.F24

namespace Go.Proofs.Ytafpgojoemcgnaa.F24
open Go Go.Proofs Go.Proofs.YtafpgojoemcgnaaAbs
set_option maxHeartbeats 4000000
set_option maxRecDepth 100000
theorem zeroRow_pair (x y : Value) : zeroRow [x, y] 1 = [x, y] := rfl
/-- A slice that grows: none, or a row of its own above n. -/
def Gw (n : Nat) (g : AMem) (v : Value) (ws : List Wr) : Prop := (ws = [] ∧ v = .slice none 0 0) ∨ ∃ b, n ≤ b ∧ v = .slice (some ⟨b, 0, none⟩) ws.length 2 ∧ g b = some (.row (ws.flatMap cW) true)
theorem Gw.rd {n : Nat} {g : AMem} {v : Value} {ws : List Wr} (h : Gw n g v ws) : rdX g v ws := by
  rcases h with ⟨rfl, rfl⟩ | ⟨b, _, rfl, hb⟩
  · exact Rd.nil
  · have hl := flat_length (enc := cW) (e := 2) (fun _ => rfl) ws
    exact Rd.of_row (enc := cW) (fun _ => rfl) hb (by rw [hl]; omega) (by rw [← hl, List.drop_zero, List.take_length]) rfl
theorem ownW (v : Value) (ws : List Wr) (g : AMem) (n : Nat) (hdom : ∀ i, g i ≠ none → i < n) (hl : ws.length ≤ 100000) (hv : rdX g v ws) :
    FnS Try.prog f_reevelaw24_ownW [v] g n (fun _ => False) fun r g' n' => Gw n g' r ws ∧ Kept g n g' n' := by
  refine fnS_of_rwp t_reevelaw24_ownW hm rfl hdom ?_
  obtain ⟨va, ve, hvf⟩ := hv.form
  simp (maxSteps := 1000000) (disch := first | assumption | omega | rfl | decide | simp only [fitsR, Bool.and_self]) [↓rules, rules, ↓rulesDp, rulesDq, lit_u64, Int.ofNat_inj, rc_reevelaw24_ownW]
  refine rwp_loop (fun k l g' n' => ∃ i u, k = ws.length - i ∧ i ≤ ws.length ∧ Kept g n g' n' ∧ Gw n g' u (ws.take i) ∧ l = [(0, v), (3, u), (4, .int .i64 i)]) ?_ (k := ws.length) ?_
  · rintro k l g' n' ⟨i, u, rfl, hi, hk, hu, rfl⟩
    have rn := hv.ext (hk.ext hdom)
    simp (maxSteps := 1000000) (disch := first | assumption | omega | rfl | decide | simp only [fitsR, Bool.and_self]) [↓rules, rules, ↓rulesDp, rulesDq, lit_u64, Int.ofNat_inj, rc_reevelaw24_ownWl0, q_int, q_bool, q_uint64, q_S_wset_Write, q_wset_Write, q_S_reeveref22_Write, q_reeveref22_Write, hvf]
    rw [← hvf]
    refine rcond_dec (fun hlt => ?_) (fun hlt => ?_)
    · have hlt : i < ws.length := by omega
      obtain ⟨b1, o1, h1, hb1, h2⟩ := rdX_at rn hlt
      have e1 := (h2 g' (Ext.refl _) Try.prog _ ta_int).1
      have e2 := (h2 g' (Ext.refl _) Try.prog _ ta_uint64).2
      have hn := hk.le
      have ht : ws.take (i + 1) = ws.take i ++ [ws[i]] := by rw [List.take_add_one, List.getElem?_eq_getElem hlt]; rfl
      have htl : (ws.take i).length = i := by rw [List.length_take, Nat.min_eq_left (by omega)]
      have hfl : ((ws.take i).flatMap cW).length = i * 2 := by rw [flat_length (enc := cW) (e := 2) (fun _ => rfl), htl]
      rcases hu with ⟨hz, rfl⟩ | ⟨b, hb, rfl, hgb⟩
      · simp (maxSteps := 1000000) (disch := first | assumption | omega | rfl | decide | simp only [fitsR, Bool.and_self]) [↓rules, rules, ↓rulesDp, rulesDq, lit_u64, Int.ofNat_inj, q_int, q_bool, q_uint64, q_S_wset_Write, q_wset_Write, q_S_reeveref22_Write, q_reeveref22_Write, h1, hlt, e1, e2, zeroRow_pair]
        refine ⟨ws.length - (i + 1), by omega, i + 1, rfl, by omega, (hk.new _).new _, _, ?_, rfl, wrap_i64 (by omega) (by omega)⟩
        refine Or.inr ⟨n' + 1, by omega, ?_, ?_⟩
        · rw [ht, hz]; rfl
        · rw [ht, hz]; simp [gset, cW]
      · have hbn := hk.lt hgb
        have hbn1 : b ≠ n' := by omega
        have hbn2 : b ≠ n' + 1 := by omega
        have hsz : (i + 1) * 16 ≤ 70368744177664 := by omega
        have hsz2 : i ≤ 70368744177663 := by omega
        have htc : (ws.take (i + 1)).flatMap cW = (ws.take i).flatMap cW ++ [.int .i64 ws[i].p, U ws[i].v] := by rw [ht, List.flatMap_append]; rfl
        generalize (ws.take i).flatMap cW = cs at hfl hgb htc
        simp (maxSteps := 1000000) (disch := first | assumption | omega | rfl | decide | simp only [fitsR, Bool.and_self]) [↓rules, rules, ↓rulesDp, rulesDq, lit_u64, Int.ofNat_inj, q_int, q_bool, q_uint64, q_S_wset_Write, q_wset_Write, q_S_reeveref22_Write, q_reeveref22_Write, h1, hlt, e1, e2, hgb, hbn1, hbn2, htl, zeroRow_pair, hsz, hsz2, hfl]
        refine ⟨hb, ws.length - (i + 1), by omega, i + 1, rfl, by omega, ((hk.new _).drop hb).new _, _, ?_, rfl, wrap_i64 (by omega) (by omega)⟩
        refine Or.inr ⟨n' + 1, by omega, ?_, ?_⟩
        · rw [ht, List.length_append, htl]; rfl
        · rw [htc]; simp [gset]
    · have : i = ws.length := by omega
      subst this
      rw [List.take_length] at hu
      exact sdone_ret rfl ⟨hu, hk⟩
  · exact ⟨0, .slice none 0 0, by simp, by simp, Kept.refl hdom, Or.inl ⟨by simp, rfl⟩, by rfl⟩
end Go.Proofs.Ytafpgojoemcgnaa.F24

namespace Go.Proofs.Ytafpgojoemcgnaa.F24
open Go Go.Proofs Go.Proofs.YtafpgojoemcgnaaAbs
set_option maxHeartbeats 4000000
set_option maxRecDepth 100000
def mxW (a b : BitVec 64) : BitVec 64 := if a < b then b else a
theorem max_U (ts : Array TypeId) (t : TypeId) (a b : BitVec 64) : pureFlat Try.prog (Builtin.max_ ts t #[U a, U b]) = some (U (mxW a b)) := by
  have e : Builtin.max_ ts t #[U a, U b] = Builtin.max2 (U a) (U b) := by simp [Builtin.max_]
  have e2 : Builtin.max2 (U a) (U b) = .pure (U (mxW a b)) := by
    show Sem.pure (Value.int .u64 (if uI b > uI a then uI b else uI a)) = _
    congr 1
    unfold mxW
    by_cases h : a < b
    · have h' : uI b > uI a := by have := BitVec.lt_def.1 h; unfold uI; omega
      rw [if_pos h, if_pos h']; rfl
    · have h' : ¬ uI b > uI a := by have hh : ¬ a.toNat < b.toNat := fun k => h (BitVec.lt_def.2 k); unfold uI; omega
      rw [if_neg h, if_neg h']; rfl
  rw [pureFlat, e, e2]; rfl
noncomputable def maxO (u v : Value) : Option (Value × Eff) := if flatV u = true ∧ flatV v = true then (pureFlat Try.prog (Builtin.max_ #[] 0 #[u, v])).map fun v => (v, Eff.none) else none
theorem maxO_U (a b : BitVec 64) : maxO (U a) (U b) = some (U (mxW a b), .none) := by
  rw [maxO, max_U]; rfl
theorem aBuiltin_max (g : AMem) (n : Nat) (ty : TypeId) (ev : Operand → Value) (x y : Operand) (ts : Array TypeId) : aBuiltin Try.prog g n ty ev .max #[x, y] ts = maxO (ev x) (ev y) := by
  unfold maxO
  simp only [aBuiltin, List.all_cons, List.all_nil, Bool.and_true, Bool.and_eq_true, List.map_toArray, List.map_cons, List.map_nil]
  rfl
theorem slices_MaxW (v : Value) (x : BitVec 64) (xs : List (BitVec 64)) (g : AMem) (n : Nat) (hl : xs.length < 4611686018427387903) (hv : rdW g v (x :: xs)) : FnC Try.prog f_slices_Max_S_uint64_uint64 [v] g n (fun _ => False) (U (xs.foldl mxW x)) g n := by
  refine fnC_of_rwp t_slices_Max_S_uint64_uint64 hm rfl fun hdom => ?_
  obtain ⟨va, ve, hvf⟩ := hv.form
  obtain ⟨b0, o0, h0, _, h2⟩ := hv.one (i := 0) (by simp)
  have e0 := h2 g (Ext.refl _) Try.prog _ ta_uint64
  rw [hvf] at h0
  simp only [Value.slice.injEq] at h0
  obtain ⟨rfl, _, rfl⟩ := h0
  have hb : ¬ ((xs.length : Int) + 1 < 1) := by omega
  simp only [List.getElem_cons_zero, Nat.add_zero] at e0
  simp (maxSteps := 1000000) (disch := first | assumption | omega | rfl | decide | simp only [fitsR, Bool.and_self]) [↓rules, rules, ↓rulesDp, rulesDq, lit_u64, Int.ofNat_inj, stops, rc_slices_Max_S_uint64_uint64, q_int, q_bool, q_interface, q_uint64, q_S_uint64, hvf, hb, e0]
  refine rwp_loop (fun k l g' n' => ∃ i m, k = xs.length - i ∧ i ≤ xs.length ∧ g' = g ∧ n' = n ∧ (xs.drop i).foldl mxW m = xs.foldl mxW x ∧ l = [(0, .slice (some ⟨b0, o0, none⟩) (xs.length + 1) 1), (3, U m), (4, .int .i64 ((i : Int) + 1))]) ?_ (k := xs.length) ?_
  · rintro k l g' n' ⟨i, m, rfl, hi, rfl, rfl, he, rfl⟩
    simp (maxSteps := 1000000) (disch := first | assumption | omega | rfl | decide | simp only [fitsR, Bool.and_self]) [↓rules, rules, ↓rulesDp, rulesDq, lit_u64, Int.ofNat_inj, stops, rc_slices_Max_S_uint64_uint64l0, q_int, q_bool, q_interface, q_uint64, q_S_uint64]
    refine rcond_dec (fun hlt => ?_) (fun hlt => ?_)
    · have hlt : i < xs.length := by omega
      obtain ⟨b1, o1, h1, _, h2⟩ := hv.one (i := i + 1) (by simpa using hlt)
      have e1 := h2 g' (Ext.refl _) Try.prog _ ta_uint64
      rw [hvf] at h1
      simp only [Value.slice.injEq, Option.some.injEq, Addr.mk.injEq] at h1
      obtain ⟨⟨rfl, rfl, _⟩, _, _⟩ := h1
      have hd : xs.drop i = xs[i] :: xs.drop (i + 1) := List.drop_eq_getElem_cons hlt
      rw [hd] at he
      simp only [List.getElem_cons_succ] at e1
      have hz : 0 ≤ (i : Int) + 1 := by omega
      simp (maxSteps := 1000000) (disch := first | assumption | omega | rfl | decide | simp only [fitsR, Bool.and_self]) [↓rules, rules, ↓rulesDp, rulesDq, lit_u64, Int.ofNat_inj, stops, q_int, q_bool, q_interface, q_uint64, q_S_uint64, hlt, e1, hz, rdo_builtin, aBuiltin_max, maxO_U]
      refine ⟨xs.length - (i + 1), by omega, i + 1, rfl, by omega, _, he, rfl, ?_⟩
      rw [wrap_i64 (by omega) (by omega)]
      simp
    · have : i = xs.length := by omega
      subst this
      rw [List.drop_length] at he
      simp (maxSteps := 1000000) (disch := first | assumption | omega | rfl | decide | simp only [fitsR, Bool.and_self]) [↓rules, rules, ↓rulesDp, rulesDq, lit_u64, Int.ofNat_inj, stops]
      refine done_q hdom (Kept.refl hdom) rfl ?_
      rw [← he]; rfl
  · exact ⟨0, x, by simp, by simp, rfl, rfl, by simp, by rfl⟩
end Go.Proofs.Ytafpgojoemcgnaa.F24
