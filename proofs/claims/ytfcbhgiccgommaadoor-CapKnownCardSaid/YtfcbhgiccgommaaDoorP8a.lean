/- Contracts of functions: what each one returns, and what it leaves. No statement is proved here. -/
import Derived.Test.YtfcbhgiccgommaaDoorF8
import Derived.Shelf.Strings.OnBuilder
import Derived.Shelf.Strconv.Itoa3
set_option linter.unusedVariables false
set_option linter.unusedSimpArgs false
namespace Go.Proofs.YtfcbhgiccgommaaDoor.F8
open Go Go.Proofs Go.Proofs.YtfcbhgiccgommaaDoorAbs
set_option maxRecDepth 100000
abbrev rdW (g : AMem) (v : Value) (ws : List (BitVec 64)) : Prop := Rd g 1 (fun w => [U w]) v ws
abbrev rdI (g : AMem) (v : Value) (xs : List Int) : Prop := Rd g 1 (fun x => [.int .i64 x]) v xs
end Go.Proofs.YtfcbhgiccgommaaDoor.F8

namespace Go.Proofs.YtfcbhgiccgommaaDoor.F8
open Go Go.Proofs Go.Proofs.YtfcbhgiccgommaaDoorAbs
theorem LKk {k : IntKind} {v : Value} (h : (LK.int k).is v) : ∃ x : Int, v = .int k x ∧ k.min ≤ x ∧ x ≤ k.max := by
  obtain ⟨x, rfl, hx⟩ := h
  simp only [Lit.wf, Bool.and_eq_true, decide_eq_true_eq] at hx
  exact ⟨x, rfl, hx.1, hx.2⟩
theorem LKf {v : Value} (h : (LK.float .f64).is v) : ∃ x : Nat, v = .float .f64 x ∧ x < 18446744073709551616 := by
  obtain ⟨x, rfl, hx⟩ := h
  simp only [Lit.wf, decide_eq_true_eq] at hx
  exact ⟨x, rfl, hx⟩
theorem okWide_f64 {P : Program} {W : World} {r : Reach} {base : Nat} {t : TypeId} {v : Value} (ht : P.underlying t = some (.float .f64)) (h : Value.okWide P W r base t v) : ∃ n, v = .float .f64 n := by
  simp only [Value.okWide, ht, Cell.okWide] at h
  cases v <;> simp_all [Cell.ok]
theorem decWo {H : Type} {enc : TypeId × Value → H} {W : World} : ∀ c, Cells enc Tryd.prog W [.flat (.int .u64)] c → ∃ x : BitVec 64, [U x] = c ∧ True := fun c h => by
  obtain ⟨a, rfl, ha⟩ := h.flats1
  obtain ⟨x, rfl⟩ := LK.u64 ha
  exact ⟨x, rfl, trivial⟩
end Go.Proofs.YtfcbhgiccgommaaDoor.F8

namespace Go.Proofs.YtfcbhgiccgommaaDoor.F8
open Go Go.Proofs Go.Proofs.YtfcbhgiccgommaaDoorAbs
set_option maxRecDepth 100000
/-- A slice that is read, as a row. -/
theorem rd_all {α : Type} {enc : α → List Value} {e : Nat} {g : AMem} {v : Value} {xs : List α} (h : Rd g e enc v xs) (h0 : 0 < xs.length) : ∃ b o cs r, v = .slice (some ⟨b, o, none⟩) xs.length e ∧ g b = some (.row cs r) ∧ o + xs.length * e ≤ cs.length ∧ xs.flatMap enc = (cs.drop o).take (xs.length * e) := aRead_row h h0
/-- Its elements. -/
theorem rd_elems {α : Type} {f : α → Value} {g : AMem} {v : Value} {xs : List α} (h : Rd g 1 (fun x => [f x]) v xs) (h0 : 0 < xs.length) :
    ∃ b o, v = .slice (some ⟨b, o, none⟩) xs.length 1 ∧ g b ≠ none ∧ ∀ (i : Nat) (hi : i < xs.length) (g2 : AMem), Ext g g2 → ∀ (P : Program) (t : TypeId), tagg P t = some false → aLoad P g2 t (.pointer (some ⟨b, o + i, none⟩)) = some (f xs[i]) := by
  obtain ⟨b, o, h1, h2, _⟩ := h.one h0
  refine ⟨b, o, h1, h2, fun i hi g2 hx P t ht => ?_⟩
  obtain ⟨b', o', h3, _, h4⟩ := h.one hi
  rw [h1] at h3
  simp only [Value.slice.injEq, Option.some.injEq, Addr.mk.injEq] at h3
  obtain ⟨⟨rfl, rfl, _⟩, _⟩ := h3
  exact h4 g2 hx P t ht
theorem rd_nths {α : Type} {f : α → Value} {g : AMem} {v : Value} {xs : List α} (h : Rd g 1 (fun x => [f x]) v xs) (h0 : 0 < xs.length) :
    ∃ b o cs r, v = .slice (some ⟨b, o, none⟩) xs.length 1 ∧ g b = some (.row cs r) ∧ ∀ (i : Nat) (hi : i < xs.length), nth cs (o + i) = some (f xs[i]) := by
  obtain ⟨b, o, cs, r, h1, h2, h3, h4⟩ := rd_all h h0
  refine ⟨b, o, cs, r, h1, h2, fun i hi => ?_⟩
  rw [flatMap_one, Nat.mul_one] at h4
  have : (xs.map f)[i]? = some (f xs[i]) := by simp [hi]
  rw [h4, List.getElem?_take, if_pos hi, List.getElem?_drop] at this
  rw [← nth_eq]; exact this
/-- A part of it. -/
theorem rd_part {α : Type} {enc : α → List Value} {e : Nat} (he : ∀ x, (enc x).length = e) {g : AMem} {b o n : Nat} {xs : List α} (h : Rd g e enc (.slice (some ⟨b, o, none⟩) n e) xs) (k m : Nat) (hm : k + m ≤ xs.length) : Rd g e enc (.slice (some ⟨b, o + k * e, none⟩) m e) ((xs.drop k).take m) := by
  have hn : n = xs.length := by
    obtain ⟨a, e', h1⟩ := h.form
    simp only [Value.slice.injEq] at h1
    exact h1.2.1
  have hl : ((xs.drop k).take m).length = m := by rw [List.length_take, List.length_drop]; omega
  by_cases h0 : m = 0
  · subst h0
    simp [Rd, aRead]
  obtain ⟨b', o', cs, r, h1, h2, h3, h4⟩ := rd_all h (by omega)
  simp only [Value.slice.injEq, Option.some.injEq, Addr.mk.injEq] at h1
  obtain ⟨⟨rfl, rfl, _⟩, _⟩ := h1
  have hke : k * e + m * e ≤ xs.length * e := by rw [← Nat.add_mul]; exact Nat.mul_le_mul_right _ hm
  refine Rd.of_row he h2 (by rw [hl]; omega) ?_ hl.symm
  rw [hl]
  have e1 : xs.flatMap enc = (xs.take k).flatMap enc ++ (((xs.drop k).take m).flatMap enc ++ ((xs.drop k).drop m).flatMap enc) := by
    rw [← List.flatMap_append, List.take_append_drop, ← List.flatMap_append, List.take_append_drop]
  have l1 : ((xs.take k).flatMap enc).length = k * e := by rw [flat_length he, List.length_take, Nat.min_eq_left (by omega)]
  have l2 : (((xs.drop k).take m).flatMap enc).length = m * e := by rw [flat_length he, hl]
  have e2 : ((xs.flatMap enc).drop (k * e)).take (m * e) = ((xs.drop k).take m).flatMap enc := by
    rw [e1, ← l1, List.drop_left, ← l2, List.take_left]
  rw [← e2, h4, List.drop_take, List.drop_drop, List.take_take, Nat.min_eq_left (by omega)]
theorem rd_read {α : Type} {enc : α → List Value} {e : Nat} {g : AMem} {v : Value} {xs : List α} (h : Rd g e enc v xs) : aRead g e v = some (xs.length, xs.flatMap enc) := h
set_option maxHeartbeats 2000000
end Go.Proofs.YtfcbhgiccgommaaDoor.F8

namespace Go.Proofs.YtfcbhgiccgommaaDoor.F8
open Go Go.Proofs Go.Proofs.YtfcbhgiccgommaaDoorAbs
set_option maxRecDepth 100000
def M (a b : Int) : BitVec 64 := ((1#64 <<< b.toNat) - 1#64) <<< a.toNat
set_option maxHeartbeats 2000000
theorem mask (a b : Int) (ha : 0 ≤ a) (hb : 0 ≤ b) (g : AMem) (n : Nat) : FnC Tryd.prog f_tag_Field_mask [.agg #[.int .i64 a, .int .i64 b]] g n (fun _ => False) (U (M a b)) g n := by
  refine fnC_of_rwp t_tag_Field_mask hm rfl fun hdom => ?_
  simp (maxSteps := 1000000) (disch := first | assumption | omega | rfl | decide) [↓rules, rules, lit_u64, aEval_U, splice_nil, splice_zero, splice_step, gset_gset, Int.ofNat_inj, U_junk, U_cells, U_cellOk, ub_and, ub_or, ub_xor, ub_andNot, ub_add, ub_sub, ub_mul, ub_shl, ub_shr, ub_shl', ub_shr', ub_eql, ub_neq, ub_lss, ub_leq, ub_gtr, ub_geq, rc_tag_Field_mask, tf_tag_Field_From, tf_tag_Field_Len, ta_int, ts_int]
  refine done_q hdom ((Kept.refl hdom).new _) ?_ ?_ <;> rfl
abbrev okF (a b : Int) (w : BitVec 64) : Prop := 0 ≤ a ∧ a < 64 ∧ 1 ≤ b ∧ b ≤ 64 - a ∧ w &&& M a b = 0#64
/-- All fields' bits. -/
def allF : List (Int × Int) → BitVec 64 → BitVec 64 × Bool
  | [], w => (w, true)
  | f :: fs, w => if okF f.1 f.2 w then allF fs (w ||| M f.1 f.2) else (0#64, false)
def encF (f : Int × Int) : List Value := [.int .i64 f.1, .int .i64 f.2]
def fOk (f : Int × Int) : Prop := -9223372036854775808 ≤ f.1 ∧ f.1 ≤ 9223372036854775807 ∧ -9223372036854775808 ≤ f.2 ∧ f.2 ≤ 9223372036854775807
theorem all (v : Value) (fs : List (Int × Int)) (g : AMem) (n : Nat) (hl : fs.length < 4611686018427387904) (hfo : ∀ f ∈ fs, fOk f) (hv : Rd g 2 encF v fs) : FnC Tryd.prog f_tag_all [v] g n (fun _ => False) (.tuple #[U (allF fs 0#64).1, .bool (allF fs 0#64).2]) g n := by
  refine fnC_of_rwp t_tag_all hm rfl fun hdom => ?_
  obtain ⟨a, e', hvf⟩ := hv.form
  simp (maxSteps := 1000000) (disch := first | assumption | omega | rfl | decide) [↓rules, rules, lit_u64, aEval_U, splice_nil, splice_zero, splice_step, gset_gset, Int.ofNat_inj, U_junk, U_cells, U_cellOk, ub_and, ub_or, ub_xor, ub_andNot, ub_add, ub_sub, ub_mul, ub_shl, ub_shr, ub_shl', ub_shr', ub_eql, ub_neq, ub_lss, ub_leq, ub_gtr, ub_geq, rc_tag_all, hvf, tu_S_tag_Field]
  refine rwp_loop (fun k l g' n' => ∃ i w, k = fs.length - i ∧ i ≤ fs.length ∧ Kept g n g' n' ∧ allF (fs.drop i) w = allF fs 0#64 ∧ l = [(4, U w), (7, v), (8, .int .i64 fs.length), (9, .int .i64 i)]) ?_ (k := fs.length) ?_
  · rintro k l g' n' ⟨i, w, rfl, hi, hk, hw, rfl⟩
    simp (maxSteps := 1000000) (disch := first | assumption | omega | rfl | decide) [↓rules, rules, lit_u64, aEval_U, splice_nil, splice_zero, splice_step, gset_gset, Int.ofNat_inj, U_junk, U_cells, U_cellOk, ub_and, ub_or, ub_xor, ub_andNot, ub_add, ub_sub, ub_mul, ub_shl, ub_shr, ub_shl', ub_shr', ub_eql, ub_neq, ub_lss, ub_leq, ub_gtr, ub_geq, rc_tag_alll0]
    refine rcond_dec (fun hlt => ?_) (fun hlt => ?_)
    · have hlt : i < fs.length := by omega
      obtain ⟨b, o, cs, rw_, h1, h2, h3, h4, h5⟩ := hv.elem (fun _ => rfl) hlt
      have hb : b < n := hdom b (by rw [h2]; simp)
      have hn := hk.le
      have hbn : b ≠ n' := by omega
      have h2' : g' b = some (.row cs rw_) := by rw [hk.same b hb, h2]
      have hdrop : fs.drop i = fs[i] :: fs.drop (i + 1) := List.drop_eq_getElem_cons hlt
      have hf := hfo fs[i] (List.getElem_mem hlt)
      generalize fs[i] = f at *
      obtain ⟨p, q⟩ := f
      obtain ⟨hf1, hf2, hf3, hf4⟩ := hf
      simp only at hf1 hf2 hf3 hf4
      rw [hdrop, allF] at hw
      have hld := load_elem (P := Tryd.prog) h2' ta_tag_Field ts_tag_Field h3 h4
      simp (maxSteps := 1000000) (disch := first | assumption | omega | rfl | decide) [↓rules, rules, lit_u64, aEval_U, splice_nil, splice_zero, splice_step, gset_gset, Int.ofNat_inj, U_junk, U_cells, U_cellOk, ub_and, ub_or, ub_xor, ub_andNot, ub_add, ub_sub, ub_mul, ub_shl, ub_shr, ub_shl', ub_shr', ub_eql, ub_neq, ub_lss, ub_leq, ub_gtr, ub_geq, h1, tu_S_tag_Field, ts_tag_Field, hlt, hld, encF, tz_tag_Field]
      refine ⟨hn, ?_⟩
      have bad : ¬ okF p q w → allF fs 0#64 = (0#64, false) := fun h => by rw [← hw, if_neg h]
      have kn := (hk.new (.row [.int .i64 p, .int .i64 q] true))
      by_cases c1 : p < 0
      · simp (maxSteps := 1000000) (disch := first | assumption | omega | rfl | decide) [↓rules, rules, lit_u64, aEval_U, splice_nil, splice_zero, splice_step, gset_gset, Int.ofNat_inj, U_junk, U_cells, U_cellOk, ub_and, ub_or, ub_xor, ub_andNot, ub_add, ub_sub, ub_mul, ub_shl, ub_shr, ub_shl', ub_shr', ub_eql, ub_neq, ub_lss, ub_leq, ub_gtr, ub_geq, tf_tag_Field_From, tf_tag_Field_Len, ta_int, ts_int, c1]
        refine done_q hdom kn ?_ ?_; · rfl
        rw [bad (by unfold okF; omega)]; rfl
      by_cases c2 : 64 ≤ p
      · simp (maxSteps := 1000000) (disch := first | assumption | omega | rfl | decide) [↓rules, rules, lit_u64, aEval_U, splice_nil, splice_zero, splice_step, gset_gset, Int.ofNat_inj, U_junk, U_cells, U_cellOk, ub_and, ub_or, ub_xor, ub_andNot, ub_add, ub_sub, ub_mul, ub_shl, ub_shr, ub_shl', ub_shr', ub_eql, ub_neq, ub_lss, ub_leq, ub_gtr, ub_geq, tf_tag_Field_From, tf_tag_Field_Len, ta_int, ts_int, c1, c2]
        refine done_q hdom kn ?_ ?_; · rfl
        rw [bad (by unfold okF; omega)]; rfl
      by_cases c3 : q < 1
      · simp (maxSteps := 1000000) (disch := first | assumption | omega | rfl | decide) [↓rules, rules, lit_u64, aEval_U, splice_nil, splice_zero, splice_step, gset_gset, Int.ofNat_inj, U_junk, U_cells, U_cellOk, ub_and, ub_or, ub_xor, ub_andNot, ub_add, ub_sub, ub_mul, ub_shl, ub_shr, ub_shl', ub_shr', ub_eql, ub_neq, ub_lss, ub_leq, ub_gtr, ub_geq, tf_tag_Field_From, tf_tag_Field_Len, ta_int, ts_int, c1, c2, c3]
        refine done_q hdom kn ?_ ?_; · rfl
        rw [bad (by unfold okF; omega)]; rfl
      by_cases c4 : 64 - p < q
      · simp (maxSteps := 1000000) (disch := first | assumption | omega | rfl | decide) [↓rules, rules, lit_u64, aEval_U, splice_nil, splice_zero, splice_step, gset_gset, Int.ofNat_inj, U_junk, U_cells, U_cellOk, ub_and, ub_or, ub_xor, ub_andNot, ub_add, ub_sub, ub_mul, ub_shl, ub_shr, ub_shl', ub_shr', ub_eql, ub_neq, ub_lss, ub_leq, ub_gtr, ub_geq, tf_tag_Field_From, tf_tag_Field_Len, ta_int, ts_int, c1, c2, c3, wrap_i64, c4]
        refine done_q hdom kn ?_ ?_; · rfl
        rw [bad (by unfold okF; omega)]; rfl
      simp (maxSteps := 1000000) (disch := first | assumption | omega | rfl | decide) [↓rules, rules, lit_u64, aEval_U, splice_nil, splice_zero, splice_step, gset_gset, Int.ofNat_inj, U_junk, U_cells, U_cellOk, ub_and, ub_or, ub_xor, ub_andNot, ub_add, ub_sub, ub_mul, ub_shl, ub_shr, ub_shl', ub_shr', ub_eql, ub_neq, ub_lss, ub_leq, ub_gtr, ub_geq, tf_tag_Field_From, tf_tag_Field_Len, ta_int, ts_int, c1, c2, c3, wrap_i64, c4, ta_tag_Field, ts_tag_Field]
      refine rcall_quiet rfl (mask p q (by omega) (by omega) _ _) ?_
      simp (maxSteps := 1000000) (disch := first | assumption | omega | rfl | decide) [↓rules, rules, lit_u64, aEval_U, splice_nil, splice_zero, splice_step, gset_gset, Int.ofNat_inj, U_junk, U_cells, U_cellOk, ub_and, ub_or, ub_xor, ub_andNot, ub_add, ub_sub, ub_mul, ub_shl, ub_shr, ub_shl', ub_shr', ub_eql, ub_neq, ub_lss, ub_leq, ub_gtr, ub_geq]
      refine rcond_bool (fun c5 => ?_) (fun c5 => ?_)
      · refine done_q hdom kn ?_ ?_; · rfl
        rw [bad (by unfold okF; intro h; simp [h.2.2.2.2] at c5)]; rfl
      · have good : okF p q w := by unfold okF; refine ⟨by omega, by omega, by omega, by omega, ?_⟩; simpa using c5
        simp (maxSteps := 1000000) (disch := first | assumption | omega | rfl | decide) [↓rules, rules, lit_u64, aEval_U, splice_nil, splice_zero, splice_step, gset_gset, Int.ofNat_inj, U_junk, U_cells, U_cellOk, ub_and, ub_or, ub_xor, ub_andNot, ub_add, ub_sub, ub_mul, ub_shl, ub_shr, ub_shl', ub_shr', ub_eql, ub_neq, ub_lss, ub_leq, ub_gtr, ub_geq, ta_tag_Field, ts_tag_Field]
        refine rcall_quiet rfl (mask p q (by omega) (by omega) _ _) ?_
        simp (maxSteps := 1000000) (disch := first | assumption | omega | rfl | decide) [↓rules, rules, lit_u64, aEval_U, splice_nil, splice_zero, splice_step, gset_gset, Int.ofNat_inj, U_junk, U_cells, U_cellOk, ub_and, ub_or, ub_xor, ub_andNot, ub_add, ub_sub, ub_mul, ub_shl, ub_shr, ub_shl', ub_shr', ub_eql, ub_neq, ub_lss, ub_leq, ub_gtr, ub_geq, wrap_i64]
        refine ⟨fs.length - (i + 1), by omega, i + 1, rfl, by omega, kn, w ||| M p q, ?_, by simp⟩
        rw [← hw, if_pos good]
    · refine done_q hdom hk ?_ ?_; · rfl
      have : i = fs.length := by omega
      subst this
      rw [List.drop_length, allF] at hw
      rw [← hw]; rfl
  · exact ⟨0, 0#64, by simp, by simp, Kept.refl hdom, by simp, by rw [← hvf]; rfl⟩

def goodF (fs : List (Int × Int)) : Bool := (allF fs 0#64).2
abbrev rdF (g : AMem) (v : Value) (fs : List (Int × Int)) : Prop := Rd g 2 encF v fs
theorem Good (v : Value) (fs : List (Int × Int)) (g : AMem) (n : Nat) (hl : fs.length < 4611686018427387904) (hfo : ∀ f ∈ fs, fOk f) (hv : rdF g v fs) : FnC Tryd.prog f_tag_Good [v] g n (fun _ => False) (.bool (goodF fs)) g n := by
  refine fnC_of_rwp t_tag_Good hm rfl fun hdom => ?_
  simp (maxSteps := 1000000) (disch := first | assumption | omega | rfl | decide) [↓rules, rules, lit_u64, aEval_U, splice_nil, splice_zero, splice_step, gset_gset, Int.ofNat_inj, U_junk, U_cells, U_cellOk, ub_and, ub_or, ub_xor, ub_andNot, ub_add, ub_sub, ub_mul, ub_shl, ub_shr, ub_shl', ub_shr', ub_eql, ub_neq, ub_lss, ub_leq, ub_gtr, ub_geq, rc_tag_Good]
  refine rcall_quiet rfl (all v fs g n hl hfo hv) ?_
  simp (maxSteps := 1000000) (disch := first | assumption | omega | rfl | decide) [↓rules, rules, lit_u64, aEval_U, splice_nil, splice_zero, splice_step, gset_gset, Int.ofNat_inj, U_junk, U_cells, U_cellOk, ub_and, ub_or, ub_xor, ub_andNot, ub_add, ub_sub, ub_mul, ub_shl, ub_shr, ub_shl', ub_shr', ub_eql, ub_neq, ub_lss, ub_leq, ub_gtr, ub_geq]
  refine done_q hdom (Kept.refl hdom) ?_ ?_ <;> rfl
theorem allF_good : ∀ (fs : List (Int × Int)) (w : BitVec 64), (allF fs w).2 = true → ∀ f ∈ fs, 0 ≤ f.1 ∧ f.1 < 64 ∧ 1 ≤ f.2 ∧ f.2 ≤ 64 - f.1
  | [], w, h, f, hf => by cases hf
  | x :: fs, w, h, f, hf => by
    rw [allF] at h
    split at h
    · rename_i ho
      cases hf with
      | head => exact ⟨ho.1, ho.2.1, ho.2.2.1, ho.2.2.2.1⟩
      | tail _ hf => exact allF_good fs _ h f hf
    · cases h
def getF (w : BitVec 64) (f : Int × Int) : BitVec 64 := (w &&& M f.1 f.2) >>> f.1.toNat
def getsF (w : BitVec 64) (fs : List (Int × Int)) : List (BitVec 64) := if goodF fs = true then fs.map (getF w) else []
theorem cellOks (ws : List (BitVec 64)) : (ws.map U).all cellOk = true := by
  induction ws with
  | nil => rfl
  | cons w ws ih => simp [ih, U_cellOk]
theorem Get (w : BitVec 64) (v : Value) (fs : List (Int × Int)) (g : AMem) (n : Nat) (hdom : ∀ i, g i ≠ none → i < n) (hl : fs.length ≤ 1000) (hfo : ∀ f ∈ fs, fOk f) (hv : rdF g v fs) :
    FnS Tryd.prog f_tag_Get [U w, v] g n (fun _ => False) fun r g' n' => rdW g' r (getsF w fs) ∧ Kept g n g' n' := by
  refine fnS_of_rwp t_tag_Get hm rfl hdom ?_
  obtain ⟨a, e', hvf⟩ := hv.form
  simp (maxSteps := 1000000) (disch := first | assumption | omega | rfl | decide) [↓rules, rules, lit_u64, aEval_U, splice_nil, splice_zero, splice_step, gset_gset, Int.ofNat_inj, U_junk, U_cells, U_cellOk, ub_and, ub_or, ub_xor, ub_andNot, ub_add, ub_sub, ub_mul, ub_shl, ub_shr, ub_shl', ub_shr', ub_eql, ub_neq, ub_lss, ub_leq, ub_gtr, ub_geq, rc_tag_Get]
  refine rcall_quiet rfl (Good v fs g n (by omega) hfo hv) ?_
  simp (maxSteps := 1000000) (disch := first | assumption | omega | rfl | decide) [↓rules, rules, lit_u64, aEval_U, splice_nil, splice_zero, splice_step, gset_gset, Int.ofNat_inj, U_junk, U_cells, U_cellOk, ub_and, ub_or, ub_xor, ub_andNot, ub_add, ub_sub, ub_mul, ub_shl, ub_shr, ub_shl', ub_shr', ub_eql, ub_neq, ub_lss, ub_leq, ub_gtr, ub_geq, hvf, tu_S_tag_Field, aMake_eq tu_S_uint64 ts_uint64 tb_uint64 tv_uint64, zeroRow_zero]
  refine rcond_bool (fun c => ?_) (fun c => ?_)
  · have c : goodF fs = false := by simpa using c
    refine sdone_ret rfl ⟨?_, Kept.refl hdom⟩
    rw [getsF, c]; exact Rd.nil
  · have c : goodF fs = true := by simpa using c
    have hok := allF_good fs 0#64 c
    have l1 : (fs.length : Int) ≤ 70368744177664 := by omega
    have l2 : 8 * fs.length ≤ 70368744177664 := by omega
    simp (maxSteps := 1000000) (disch := first | assumption | omega | rfl | decide) [↓rules, rules, lit_u64, aEval_U, splice_nil, splice_zero, splice_step, gset_gset, Int.ofNat_inj, U_junk, U_cells, U_cellOk, ub_and, ub_or, ub_xor, ub_andNot, ub_add, ub_sub, ub_mul, ub_shl, ub_shr, ub_shl', ub_shr', ub_eql, ub_neq, ub_lss, ub_leq, ub_gtr, ub_geq, l1, l2, hvf, tu_S_tag_Field]
    refine rwp_loop (fun k l g' n' => ∃ i b, k = fs.length - i ∧ i ≤ fs.length ∧ Kept g n g' n' ∧ n ≤ b ∧ g' b = some (.row ((fs.map fun f => U (getF w f)).take i) true) ∧ l = [(0, U w), (5, .slice (some ⟨b, 0, none⟩) i 1), (14, v), (15, .int .i64 fs.length), (16, .int .i64 i)]) ?_ (k := fs.length) ?_
    · rintro k l g' n' ⟨i, b, rfl, hi, hk, hb, hgb, rfl⟩
      simp (maxSteps := 1000000) (disch := first | assumption | omega | rfl | decide) [↓rules, rules, lit_u64, aEval_U, splice_nil, splice_zero, splice_step, gset_gset, Int.ofNat_inj, U_junk, U_cells, U_cellOk, ub_and, ub_or, ub_xor, ub_andNot, ub_add, ub_sub, ub_mul, ub_shl, ub_shr, ub_shl', ub_shr', ub_eql, ub_neq, ub_lss, ub_leq, ub_gtr, ub_geq, rc_tag_Getl0]
      refine rcond_dec (fun hlt => ?_) (fun hlt => ?_)
      · have hlt : i < fs.length := by omega
        obtain ⟨b1, o1, h1, hb1, h2, h3⟩ := Rd.many (enc := encF) (e := 2) (fun _ => rfl) hv hlt
        have e1 := h2 g' (hk.ext hdom) Tryd.prog _ ta_tag_Field ts_tag_Field
        have hp := hok fs[i] (List.getElem_mem hlt)
        have hb1 := hdom b1 hb1
        have hbn := hk.lt hgb
        have hn := hk.le
        simp (maxSteps := 1000000) (disch := first | assumption | omega | rfl | decide) [↓rules, rules, lit_u64, aEval_U, splice_nil, splice_zero, splice_step, gset_gset, Int.ofNat_inj, U_junk, U_cells, U_cellOk, ub_and, ub_or, ub_xor, ub_andNot, ub_add, ub_sub, ub_mul, ub_shl, ub_shr, ub_shl', ub_shr', ub_eql, ub_neq, ub_lss, ub_leq, ub_gtr, ub_geq, h1, tu_S_tag_Field, ts_tag_Field, hlt, e1, encF, tz_tag_Field, tf_tag_Field_From, ta_tag_Field]
        refine ⟨hn, ?_⟩
        refine rcall_quiet rfl (mask _ _ (by omega) (by omega) _ _) ?_
        have hbn1 : b ≠ n' := by omega
        have hbn2 : b ≠ n' + 1 := by omega
        have hsz : (i + 1) * 8 ≤ 70368744177664 := by omega
        have hsz2 : i + 1 ≤ 70368744177664 := by omega
        have hmin : min i fs.length = i := by omega
        simp (maxSteps := 1000000) (disch := first | assumption | omega | rfl | decide) [↓rules, rules, lit_u64, aEval_U, splice_nil, splice_zero, splice_step, gset_gset, Int.ofNat_inj, U_junk, U_cells, U_cellOk, ub_and, ub_or, ub_xor, ub_andNot, ub_add, ub_sub, ub_mul, ub_shl, ub_shr, ub_shl', ub_shr', ub_eql, ub_neq, ub_lss, ub_leq, ub_gtr, ub_geq, fillS_nil, fillS_cons, fillP_nil, fillP_cons, fillO_some, nthP_cons, zeroRow_one, aRead_at, aRead_nil, readR_row, appR_nil, appR_row, appR1_row, appR_zero, grow_row, hbn1, hbn2, hsz, hsz2, hmin, tf_tag_Field_From, tf_tag_Field_Len, ta_int, ts_int, do_buildL tu_S_uint64 tz_uint64 ts_uint64 rfl, aAppend1 tu_S_uint64 ts_uint64 tb_uint64 tv_uint64 rfl, hgb]
        refine ⟨hb, fs.length - (i + 1), by omega, i + 1, rfl, by omega, (((hk.new _).new _).drop hb).new _, n' + 1 + 1, by omega, ?_, ⟨rfl, rfl⟩, wrap_i64 (by omega) (by omega)⟩
        rw [if_pos rfl, List.take_add_one, List.getElem?_eq_getElem (by simpa using hlt)]
        simp [getF]
      · have : i = fs.length := by omega
        refine sdone_ret rfl ⟨?_, hk⟩
        rw [getsF, if_pos c]
        show Rd g' 1 (fun w => [U w]) (.slice (some ⟨b, 0, none⟩) i 1) _
        refine Rd.of_row (enc := fun w => [U w]) (fun _ => rfl) hgb ?_ ?_ ?_
        · simp; omega
        · subst this; simp [flatMap_one, List.take_of_length_le, Function.comp_def]
        · simp; omega
    · exact ⟨0, n, by simp, by simp, (Kept.refl hdom).new _, Nat.le_refl _, by simp [gset], by rw [← hvf]; rfl⟩
def putF : List (Int × Int) → List (BitVec 64) → BitVec 64 → BitVec 64 × Bool
  | f :: fs, x :: xs, w => if M f.1 f.2 >>> f.1.toNat < x then (0#64, false) else putF fs xs (w ||| x <<< f.1.toNat)
  | _, _, w => (w, true)
def putsF (fs : List (Int × Int)) (xs : List (BitVec 64)) : BitVec 64 × Bool := if goodF fs = true ∧ fs.length = xs.length then putF fs xs 0#64 else (0#64, false)
theorem Put (v vx : Value) (fs : List (Int × Int)) (xs : List (BitVec 64)) (g : AMem) (n : Nat) (hl : fs.length ≤ 1000) (hl' : xs.length ≤ 1000) (hfo : ∀ f ∈ fs, fOk f) (hv : rdF g v fs) (hx : rdW g vx xs) :
    FnC Tryd.prog f_tag_Put [v, vx] g n (fun _ => False) (.tuple #[U (putsF fs xs).1, .bool (putsF fs xs).2]) g n := by
  refine fnC_of_rwp t_tag_Put hm rfl fun hdom => ?_
  obtain ⟨a, e', hvf⟩ := hv.form
  obtain ⟨ax, ex, hvx⟩ := hx.form
  simp (maxSteps := 1000000) (disch := first | assumption | omega | rfl | decide) [↓rules, rules, lit_u64, aEval_U, splice_nil, splice_zero, splice_step, gset_gset, Int.ofNat_inj, U_junk, U_cells, U_cellOk, ub_and, ub_or, ub_xor, ub_andNot, ub_add, ub_sub, ub_mul, ub_shl, ub_shr, ub_shl', ub_shr', ub_eql, ub_neq, ub_lss, ub_leq, ub_gtr, ub_geq, rc_tag_Put]
  refine rcall_quiet rfl (Good v fs g n (by omega) hfo hv) ?_
  cases c : goodF fs
  · simp (maxSteps := 1000000) (disch := first | assumption | omega | rfl | decide) [↓rules, rules, lit_u64, aEval_U, splice_nil, splice_zero, splice_step, gset_gset, Int.ofNat_inj, U_junk, U_cells, U_cellOk, ub_and, ub_or, ub_xor, ub_andNot, ub_add, ub_sub, ub_mul, ub_shl, ub_shr, ub_shl', ub_shr', ub_eql, ub_neq, ub_lss, ub_leq, ub_gtr, ub_geq]
    refine done_q hdom (Kept.refl hdom) ?_ ?_; · rfl
    rw [putsF, c]; simp; rfl
  by_cases hne : fs.length = xs.length
  case neg =>
    simp (maxSteps := 1000000) (disch := first | assumption | omega | rfl | decide) [↓rules, rules, lit_u64, aEval_U, splice_nil, splice_zero, splice_step, gset_gset, Int.ofNat_inj, U_junk, U_cells, U_cellOk, ub_and, ub_or, ub_xor, ub_andNot, ub_add, ub_sub, ub_mul, ub_shl, ub_shr, ub_shl', ub_shr', ub_eql, ub_neq, ub_lss, ub_leq, ub_gtr, ub_geq, hvf, hvx, tu_S_tag_Field, tu_S_uint64, hne]
    refine done_q hdom (Kept.refl hdom) ?_ ?_; · rfl
    rw [putsF, if_neg (fun h => hne h.2)]; rfl
  simp (maxSteps := 1000000) (disch := first | assumption | omega | rfl | decide) [↓rules, rules, lit_u64, aEval_U, splice_nil, splice_zero, splice_step, gset_gset, Int.ofNat_inj, U_junk, U_cells, U_cellOk, ub_and, ub_or, ub_xor, ub_andNot, ub_add, ub_sub, ub_mul, ub_shl, ub_shr, ub_shl', ub_shr', ub_eql, ub_neq, ub_lss, ub_leq, ub_gtr, ub_geq, hvf, hvx, tu_S_tag_Field, tu_S_uint64, hne]
  rw [putsF, if_pos ⟨c, hne⟩]
  have hok := allF_good fs 0#64 c
  rw [show Value.slice a xs.length e' = v by rw [hvf, hne], ← hvx]
  refine rwp_loop (fun k l g' n' => ∃ i w, k = fs.length - i ∧ i ≤ fs.length ∧ Kept g n g' n' ∧ putF (fs.drop i) (xs.drop i) w = putF fs xs 0#64 ∧ l = [(1, vx), (6, U w), (19, v), (20, .int .i64 xs.length), (21, .int .i64 i)]) ?_ (k := fs.length) ?_
  · rintro k l g' n' ⟨i, w, rfl, hi, hk, hw, rfl⟩
    simp (maxSteps := 1000000) (disch := first | assumption | omega | rfl | decide) [↓rules, rules, lit_u64, aEval_U, splice_nil, splice_zero, splice_step, gset_gset, Int.ofNat_inj, U_junk, U_cells, U_cellOk, ub_and, ub_or, ub_xor, ub_andNot, ub_add, ub_sub, ub_mul, ub_shl, ub_shr, ub_shl', ub_shr', ub_eql, ub_neq, ub_lss, ub_leq, ub_gtr, ub_geq, rc_tag_Putl0]
    refine rcond_dec (fun hlt => ?_) (fun hlt => ?_)
    · have hlt : i < fs.length := by omega
      have hltx : i < xs.length := by omega
      obtain ⟨b1, o1, h1, hb1, h2, h3⟩ := Rd.many (enc := encF) (e := 2) (fun _ => rfl) hv hlt
      obtain ⟨b2, o2, h4, hb2, h5⟩ := hx.one hltx
      have e1 := h2 g' (hk.ext hdom) Tryd.prog _ ta_tag_Field ts_tag_Field
      have hp := hok fs[i] (List.getElem_mem hlt)
      have kn := hk.new (.row [.int .i64 fs[i].1, .int .i64 fs[i].2] true)
      have e2 := h5 _ (kn.ext hdom) Tryd.prog _ ta_uint64
      have hn := hk.le
      have hb2 := hdom b2 hb2
      have hb2n : b2 ≠ n' := by omega
      simp (maxSteps := 1000000) (disch := first | assumption | omega | rfl | decide) [↓rules, rules, lit_u64, aEval_U, splice_nil, splice_zero, splice_step, gset_gset, Int.ofNat_inj, U_junk, U_cells, U_cellOk, ub_and, ub_or, ub_xor, ub_andNot, ub_add, ub_sub, ub_mul, ub_shl, ub_shr, ub_shl', ub_shr', ub_eql, ub_neq, ub_lss, ub_leq, ub_gtr, ub_geq, h1, tu_S_tag_Field, ts_tag_Field, hlt, hltx, hne, e1, encF, tz_tag_Field, tf_tag_Field_From, ta_tag_Field]
      refine ⟨hn, ?_⟩
      rw [h4]
      simp (maxSteps := 1000000) (disch := first | assumption | omega | rfl | decide) [↓rules, rules, lit_u64, aEval_U, splice_nil, splice_zero, splice_step, gset_gset, Int.ofNat_inj, U_junk, U_cells, U_cellOk, ub_and, ub_or, ub_xor, ub_andNot, ub_add, ub_sub, ub_mul, ub_shl, ub_shr, ub_shl', ub_shr', ub_eql, ub_neq, ub_lss, ub_leq, ub_gtr, ub_geq, tf_tag_Field_From, tf_tag_Field_Len, ta_tag_Field, ts_tag_Field, tu_S_uint64, ts_uint64, hltx, e2]
      refine rcall_quiet rfl (mask _ _ (by omega) (by omega) _ _) ?_
      have hdf : fs.drop i = fs[i] :: fs.drop (i + 1) := List.drop_eq_getElem_cons hlt
      have hdx : xs.drop i = xs[i] :: xs.drop (i + 1) := List.drop_eq_getElem_cons hltx
      rw [hdf, hdx, putF] at hw
      simp (maxSteps := 1000000) (disch := first | assumption | omega | rfl | decide) [↓rules, rules, lit_u64, aEval_U, splice_nil, splice_zero, splice_step, gset_gset, Int.ofNat_inj, U_junk, U_cells, U_cellOk, ub_and, ub_or, ub_xor, ub_andNot, ub_add, ub_sub, ub_mul, ub_shl, ub_shr, ub_shl', ub_shr', ub_eql, ub_neq, ub_lss, ub_leq, ub_gtr, ub_geq, tf_tag_Field_From, tf_tag_Field_Len, ta_int, ts_int]
      refine rcond_dec (fun c2 => ?_) (fun c2 => ?_)
      · refine done_q hdom kn ?_ ?_; · rfl
        rw [if_pos c2] at hw; rw [← hw]; rfl
      · rw [if_neg c2] at hw
        simp (maxSteps := 1000000) (disch := first | assumption | omega | rfl | decide) [↓rules, rules, lit_u64, aEval_U, splice_nil, splice_zero, splice_step, gset_gset, Int.ofNat_inj, U_junk, U_cells, U_cellOk, ub_and, ub_or, ub_xor, ub_andNot, ub_add, ub_sub, ub_mul, ub_shl, ub_shr, ub_shl', ub_shr', ub_eql, ub_neq, ub_lss, ub_leq, ub_gtr, ub_geq, tf_tag_Field_From, tf_tag_Field_Len, ta_int, ts_int, ta_tag_Field, ts_tag_Field, tu_S_uint64, ts_uint64, hltx, e2]
        refine ⟨xs.length - (i + 1), by omega, i + 1, rfl, by omega, kn, _, hw, ?_⟩
        simp [wrap_i64 (show -9223372036854775808 ≤ (i : Int) + 1 by omega) (by omega)]
    · have : i = fs.length := by omega
      refine done_q hdom hk ?_ ?_; · rfl
      rw [this, List.drop_length, putF] at hw
      · rw [← hw]; rfl
      · simp
  · exact ⟨0, 0#64, by simp, by simp, Kept.refl hdom, by simp, by rfl⟩
end Go.Proofs.YtfcbhgiccgommaaDoor.F8

namespace Go.Proofs.YtfcbhgiccgommaaDoor.F8
open Go Go.Proofs Go.Proofs.YtfcbhgiccgommaaDoorAbs
set_option maxRecDepth 100000
theorem ones_bit (b i : Nat) (hb : b ≤ 64) (hi : i < 64) : ((1#64 <<< b) - 1#64).getLsbD i = decide (i < b) := by
  have e : ((1#64 <<< b) - 1#64).toNat = 2 ^ b - 1 := by
    rw [BitVec.toNat_sub, BitVec.toNat_shiftLeft, Nat.shiftLeft_eq]
    by_cases h : b = 64
    · subst h; decide
    · have h1 : (2 : Nat) ^ b < 2 ^ 64 := Nat.pow_lt_pow_right (by decide) (by omega)
      have h2 : 0 < (2 : Nat) ^ b := Nat.pow_pos (by decide)
      simp only [BitVec.toNat_ofNat]
      have e1 : 1 % 2 ^ 64 * 2 ^ b % 2 ^ 64 = 2 ^ b := by rw [Nat.mod_eq_of_lt (a := 1) (by decide), Nat.one_mul, Nat.mod_eq_of_lt h1]
      rw [e1]; omega
  rw [BitVec.getLsbD, e, Nat.testBit_two_pow_sub_one]
theorem M_bit (p q : Int) (hp : 0 ≤ p) (hq : 0 ≤ q) (hs : p + q ≤ 64) (i : Nat) (hi : i < 64) : (M p q).getLsbD i = decide (p.toNat ≤ i ∧ i < p.toNat + q.toNat) := by
  unfold M
  rw [BitVec.getLsbD_shiftLeft]
  by_cases h : i < p.toNat
  · simp [h, hi]; omega
  · rw [ones_bit _ _ (by omega) (by omega)]
    simp only [hi, h, decide_true, decide_false, Bool.not_false, Bool.true_and, decide_eq_decide]; omega
def okS (f : Int × Int) : Prop := 0 ≤ f.1 ∧ f.1 < 64 ∧ 1 ≤ f.2 ∧ f.2 ≤ 64 - f.1
theorem getF_back (w : BitVec 64) (f : Int × Int) (h : okS f) : getF w f <<< f.1.toNat = w &&& M f.1 f.2 := by
  obtain ⟨h1, h2, h3, h4⟩ := h
  apply BitVec.eq_of_getLsbD_eq
  intro i hi
  rw [getF, BitVec.getLsbD_shiftLeft]
  by_cases h : i < f.1.toNat
  · have := M_bit f.1 f.2 h1 (by omega) (by omega) i hi
    have hz : (M f.1 f.2).getLsbD i = false := by rw [this]; simp; omega
    simp only [hi, h, decide_true, Bool.not_true, Bool.and_false, Bool.false_and, BitVec.getLsbD_and, hz]
  · simp [h, hi, show f.1.toNat + (i - f.1.toNat) = i by omega]
theorem getF_le (w : BitVec 64) (f : Int × Int) : ¬ M f.1 f.2 >>> f.1.toNat < getF w f := by
  rw [BitVec.not_lt, BitVec.le_def, getF, BitVec.toNat_ushiftRight, BitVec.toNat_ushiftRight, BitVec.toNat_and, Nat.shiftRight_eq_div_pow, Nat.shiftRight_eq_div_pow]
  exact Nat.div_le_div_right Nat.and_le_right
def orF : List (Int × Int) → BitVec 64
  | [] => 0#64
  | f :: fs => M f.1 f.2 ||| orF fs
theorem allF_val : ∀ (fs : List (Int × Int)) (w : BitVec 64), (allF fs w).2 = true → (allF fs w).1 = w ||| orF fs
  | [], w, h => by simp [allF, orF]
  | f :: fs, w, h => by
    rw [allF] at h ⊢
    split at h
    · rename_i ho
      rw [if_pos ho, allF_val fs _ h, orF, BitVec.or_assoc]
    · cases h
theorem putF_gets (w : BitVec 64) : ∀ (fs : List (Int × Int)) (acc : BitVec 64), (∀ f ∈ fs, okS f) → putF fs (fs.map (getF w)) acc = (acc ||| (w &&& orF fs), true)
  | [], acc, h => by simp [putF, orF]
  | f :: fs, acc, h => by
    rw [List.map_cons, putF, if_neg (getF_le w f), putF_gets w fs _ (fun f hf => h f (by simp [hf])), getF_back w f (h f (by simp)), orF]
    congr 1
    apply BitVec.eq_of_getLsbD_eq
    intro i hi
    simp only [BitVec.getLsbD_or, BitVec.getLsbD_and, Bool.and_or_distrib_left, Bool.or_assoc]
theorem orF_mem : ∀ (fs : List (Int × Int)) (f : Int × Int), f ∈ fs → orF fs &&& M f.1 f.2 = M f.1 f.2
  | g :: fs, f, h => by
    apply BitVec.eq_of_getLsbD_eq
    intro i hi
    cases h with
    | head => simp only [orF, BitVec.getLsbD_or, BitVec.getLsbD_and]; cases (M g.1 g.2).getLsbD i <;> simp
    | tail _ h =>
      have := congrArg (fun x => BitVec.getLsbD x i) (orF_mem fs f h)
      simp only [BitVec.getLsbD_and] at this
      simp only [orF, BitVec.getLsbD_or, BitVec.getLsbD_and]
      cases h1 : (M f.1 f.2).getLsbD i <;> simp_all
/-- All fields' bits. -/
def A (fs : List (Int × Int)) : BitVec 64 := (allF fs 0#64).1
theorem A_eq {fs : List (Int × Int)} (h : goodF fs = true) : A fs = orF fs := by rw [A, allF_val fs _ h]; simp
theorem puts_gets (w : BitVec 64) {fs : List (Int × Int)} (h : goodF fs = true) : putsF fs (getsF w fs) = (w &&& A fs, true) := by
  rw [putsF, getsF, if_pos h, if_pos ⟨h, by simp⟩, putF_gets w fs _ (allF_good fs _ h), A_eq h]; simp
theorem gets_and (w : BitVec 64) {fs : List (Int × Int)} (h : goodF fs = true) : getsF (w &&& A fs) fs = getsF w fs := by
  rw [getsF, getsF, if_pos h, if_pos h]
  apply List.map_congr_left
  intro f hf
  rw [getF, getF, BitVec.and_assoc, A_eq h, orF_mem fs f hf]
theorem split_or (w a : BitVec 64) : w &&& a ||| w &&& ~~~ a = w := by
  apply BitVec.eq_of_getLsbD_eq
  intro i hi
  simp only [BitVec.getLsbD_or, BitVec.getLsbD_and, BitVec.getLsbD_not, hi, decide_true, Bool.true_and]
  cases w.getLsbD i <;> cases a.getLsbD i <;> rfl
theorem split_and (w a : BitVec 64) : w &&& a &&& (w &&& ~~~ a) = 0#64 := by
  apply BitVec.eq_of_getLsbD_eq
  intro i hi
  simp only [BitVec.getLsbD_and, BitVec.getLsbD_not, hi, decide_true, Bool.true_and, BitVec.getLsbD_zero]
  cases w.getLsbD i <;> cases a.getLsbD i <;> rfl
theorem split_not (w a : BitVec 64) : w &&& a &&& ~~~ a = 0#64 := by
  apply BitVec.eq_of_getLsbD_eq
  intro i hi
  simp only [BitVec.getLsbD_and, BitVec.getLsbD_not, hi, decide_true, Bool.true_and, BitVec.getLsbD_zero]
  cases w.getLsbD i <;> cases a.getLsbD i <;> rfl
end Go.Proofs.YtfcbhgiccgommaaDoor.F8

namespace Go.Proofs.YtfcbhgiccgommaaDoor.F8
open Go Go.Proofs Go.Proofs.YtfcbhgiccgommaaDoorAbs
set_option maxRecDepth 100000
set_option maxHeartbeats 2000000
theorem Rest (w : BitVec 64) (v : Value) (fs : List (Int × Int)) (g : AMem) (n : Nat) (hl : fs.length < 4611686018427387904) (hfo : ∀ f ∈ fs, fOk f) (hv : rdF g v fs) : FnC Tryd.prog f_tag_Rest [U w, v] g n (fun _ => False) (U (w &&& ~~~ (allF fs 0#64).1)) g n := by
  refine fnC_of_rwp t_tag_Rest hm rfl fun hdom => ?_
  simp (maxSteps := 1000000) (disch := first | assumption | omega | rfl | decide) [↓rules, rules, lit_u64, aEval_U, splice_nil, splice_zero, splice_step, gset_gset, Int.ofNat_inj, U_junk, U_cells, U_cellOk, ub_and, ub_or, ub_xor, ub_andNot, ub_add, ub_sub, ub_mul, ub_shl, ub_shr, ub_shl', ub_shr', ub_eql, ub_neq, ub_lss, ub_leq, ub_gtr, ub_geq, rc_tag_Rest]
  refine rcall_quiet rfl (all v fs g n hl hfo hv) ?_
  simp (maxSteps := 1000000) (disch := first | assumption | omega | rfl | decide) [↓rules, rules, lit_u64, aEval_U, splice_nil, splice_zero, splice_step, gset_gset, Int.ofNat_inj, U_junk, U_cells, U_cellOk, ub_and, ub_or, ub_xor, ub_andNot, ub_add, ub_sub, ub_mul, ub_shl, ub_shr, ub_shl', ub_shr', ub_eql, ub_neq, ub_lss, ub_leq, ub_gtr, ub_geq]
  refine done_q hdom (Kept.refl hdom) ?_ ?_ <;> rfl
end Go.Proofs.YtfcbhgiccgommaaDoor.F8

namespace Go.Proofs.YtfcbhgiccgommaaDoor.F8
open Go Go.Proofs Go.Proofs.YtfcbhgiccgommaaDoorAbs
set_option maxHeartbeats 4000000
set_option maxRecDepth 100000
/-! ### Fields as numbers -/
theorem put_step {w x : BitVec 64} {p q : Nat} (hw : w.toNat < 2 ^ p) (hx : x.toNat < 2 ^ q) (hpq : p + q ≤ 64) : (w ||| x <<< p).toNat = w.toNat + x.toNat * 2 ^ p ∧ (w ||| x <<< p).toNat < 2 ^ (p + q) := by
  have h64 : (2 : Nat) ^ (p + q) ≤ 2 ^ 64 := Nat.pow_le_pow_right (by decide) hpq
  have e : x.toNat * 2 ^ p + w.toNat < 2 ^ (p + q) := by
    rw [Nat.add_comm p q, Nat.pow_add]
    have : (x.toNat + 1) * 2 ^ p ≤ 2 ^ q * 2 ^ p := Nat.mul_le_mul_right _ hx
    rw [Nat.succ_mul] at this
    omega
  have e1 : (x <<< p).toNat = x.toNat * 2 ^ p := by
    rw [BitVec.toNat_shiftLeft, Nat.shiftLeft_eq, Nat.mod_eq_of_lt (by omega)]
  have e2 : (w ||| x <<< p).toNat = w.toNat + x.toNat * 2 ^ p := by
    rw [BitVec.toNat_or, e1, Nat.or_comm, ← Nat.shiftLeft_eq, ← Nat.shiftLeft_add_eq_or_of_lt hw, Nat.shiftLeft_eq]; omega
  exact ⟨e2, by rw [e2]; omega⟩
theorem M_high (p q : Nat) (hpq : p + q ≤ 64) : (M p q >>> p).toNat = 2 ^ q - 1 := by
  have e : M p q >>> p = (1#64 <<< q) - 1#64 := by
    apply BitVec.eq_of_getLsbD_eq
    intro i hi
    rw [BitVec.getLsbD_ushiftRight, ones_bit q i (by omega) hi]
    by_cases h : p + i < 64
    · rw [M_bit p q (by omega) (by omega) (by omega) _ h]
      simp
    · rw [BitVec.getLsbD_of_ge _ _ (by omega)]
      symm; simp; omega
  rw [e, BitVec.toNat_sub, BitVec.toNat_shiftLeft, Nat.shiftLeft_eq]
  by_cases h : q = 64
  · subst h; decide
  · have h1 : (2 : Nat) ^ q < 2 ^ 64 := Nat.pow_lt_pow_right (by decide) (by omega)
    have h2 : 0 < (2 : Nat) ^ q := Nat.pow_pos (by decide)
    simp only [BitVec.toNat_ofNat]
    have e1 : 1 % 2 ^ 64 * 2 ^ q % 2 ^ 64 = 2 ^ q := by rw [Nat.mod_eq_of_lt (a := 1) (by decide), Nat.one_mul, Nat.mod_eq_of_lt h1]
    rw [e1]; omega
theorem putF_ok {p q : Nat} {fs : List (Int × Int)} {x : BitVec 64} {xs : List (BitVec 64)} {w : BitVec 64} (hx : x.toNat < 2 ^ q) (hpq : p + q ≤ 64) : putF (((p : Int), (q : Int)) :: fs) (x :: xs) w = putF fs xs (w ||| x <<< p) := by
  rw [putF, if_neg]
  · rfl
  · simp only [Int.toNat_natCast]
    rw [BitVec.lt_def, M_high p q hpq]; omega
theorem getF_nat (w : BitVec 64) (p q : Nat) (hpq : p + q ≤ 64) : (getF w ((p : Int), (q : Int))).toNat = w.toNat / 2 ^ p % 2 ^ q := by
  have e : getF w ((p : Int), (q : Int)) = (w >>> p) &&& ((1#64 <<< q) - 1#64) := by
    unfold getF
    apply BitVec.eq_of_getLsbD_eq
    intro i hi
    simp only [Int.toNat_natCast]
    rw [BitVec.getLsbD_ushiftRight, BitVec.getLsbD_and, BitVec.getLsbD_and, BitVec.getLsbD_ushiftRight, ones_bit q i (by omega) hi]
    by_cases h : p + i < 64
    · rw [M_bit p q (by omega) (by omega) (by omega) _ h]
      simp
    · rw [BitVec.getLsbD_of_ge _ _ (by omega)]
      simp
  have e1 : ((1#64 <<< q) - 1#64).toNat = 2 ^ q - 1 := by
    have := M_high 0 q (by omega)
    simpa [M] using this
  rw [e, BitVec.toNat_and, BitVec.toNat_ushiftRight, e1, Nat.and_two_pow_sub_one_eq_mod, Nat.shiftRight_eq_div_pow]
theorem mv1_flat (n : Nat) {v : Value} (h : flatV v = true) : mv1 n v = v := by
  unfold mv1
  split
  · cases h
  · cases h
  · cases h
  · rfl
noncomputable def runOf (f : FuncId) (k d : Nat) : Option XR := xfn Tryd.prog tab k d f [] (fun _ => none) 0
theorem fields_run {f : FuncId} {k d b m : Nat} {fs : List (Int × Int)} (h : (runOf f k d).isSome = true)
    (hv : ((runOf f k d).map (·.v)) = some (.slice (some ⟨b, 0, none⟩) fs.length 2)) (hg : ((runOf f k d).bind fun r => r.g b) = some (.row (fs.flatMap encF) true))
    (hall : ((runOf f k d).map fun r => (List.range r.n).all (fun i => match r.g i with | some o => okMvO o | none => true)) = some true) (n : Nat) :
    FnS Tryd.prog f [] (fun _ => none) n (fun _ => False) fun v g' n' => rdF g' v fs ∧ Kept (fun _ => none) n g' n' := by
  cases hr : runOf f k d with
  | none => rw [hr] at h; cases h
  | some r =>
    rw [hr] at hv hg hall
    simp only [Option.map_some, Option.some.injEq, Option.bind_some] at hv hg hall
    obtain ⟨v, g', n', h1, rfl, rfl, rfl, h5⟩ := FnS.moved (xfn_ok hm tabOk k d) hr rfl (by rw [hv]; rfl) hall n
    refine ⟨_, _, _, h1, ?_, h5⟩
    rw [hv]
    show Rd _ 2 encF (.slice (some ⟨n + b, 0, none⟩) fs.length 2) fs
    refine Rd.of_row (e := 2) (enc := encF) (fun _ => rfl) (cs := fs.flatMap encF) (rw_ := true) ?_ ?_ ?_ rfl
    · rw [mvG_at, hg]
      simp only [Option.map_some, mvO, Option.some.injEq, AObj.row.injEq, and_true]
      have : ∀ l : List Value, l.all flatV = true → l.map (mv1 n) = l := by
        intro l
        induction l with
        | nil => intro _; rfl
        | cons x l ih =>
          intro h
          simp only [List.all_cons, Bool.and_eq_true] at h
          rw [List.map_cons, ih h.2]
          congr 1
          exact mv1_flat n h.1
      refine this _ ?_
      rw [List.all_eq_true]
      intro x hx
      rw [List.mem_flatMap] at hx
      obtain ⟨f, _, hx⟩ := hx
      simp only [encF, List.mem_cons, List.not_mem_nil, or_false] at hx
      rcases hx with rfl | rfl <;> rfl
    · simp [flat_length (enc := encF) (e := 2) (fun _ => rfl)]
    · simp [flat_length (enc := encF) (e := 2) (fun _ => rfl), List.take_of_length_le]
theorem ofInt_nat {v : Int} (h1 : 0 ≤ v) (h2 : v < 18446744073709551616) : (BitVec.ofInt 64 v).toNat = v.toNat := by
  rw [BitVec.toNat_ofInt]; omega
theorem rd_row {g : AMem} {b : Nat} {ws : List (BitVec 64)} {m : Nat} (h : g b = some (.row (ws.map U) true)) (hm : m = ws.length) : rdW g (.slice (some ⟨b, 0, none⟩) m 1) ws := by
  refine Rd.of_row (e := 1) (enc := fun w => [U w]) (fun _ => rfl) h (by simp) ?_ hm
  rw [flatMap_one, List.drop_zero, Nat.mul_one, List.take_of_length_le (by simp)]
/-- Some bits of a word as a number. -/
def fld (w : BitVec 64) (p q : Nat) : Int := ((w.toNat / 2 ^ p % 2 ^ q : Nat) : Int)
theorem fld_wrap (w : BitVec 64) (p q : Nat) (hpq : p + q ≤ 64) (hq : q ≤ 32) : IntKind.i64.wrap (uI (getF w ((p : Int), (q : Int)))) = fld w p q := by
  have h : w.toNat / 2 ^ p % 2 ^ q < 4294967296 := Nat.lt_of_lt_of_le (Nat.mod_lt _ (Nat.pow_pos (by decide))) (Nat.le_trans (Nat.pow_le_pow_right (by decide) hq) (by decide))
  unfold uI fld
  rw [getF_nat w p q hpq, wrap_i64 (by omega) (by omega)]
end Go.Proofs.YtfcbhgiccgommaaDoor.F8

namespace Go.Proofs.YtfcbhgiccgommaaDoor.F8
open Go Go.Proofs
set_option maxRecDepth 100000
def lays171_ren : Go.Shelf.Ren :=
{
  f := fun x => match x with
    | 171 => 44
    | 243 => 65
    | 246 => 79
    | 283 => 90
    | 284 => 91
    | 285 => 92
    | 286 => 93
    | 129 => 104
    | 317 => 103
    | 318 => 105
    | 319 => 106
    | 320 => 107
    | 337 => 115
    | 338 => 116
    | n => n,
  t := fun x => match x with
    | 3 => 3
    | 9 => 9
    | 2 => 2
    | 4 => 4
    | 171 => 116
    | 0 => 0
    | 53 => 27
    | 37 => 93
    | 5 => 5
    | 173 => 119
    | 212 => 135
    | 51 => 136
    | 20 => 20
    | 213 => 137
    | 46 => 85
    | 232 => 151
    | 233 => 152
    | n => n,
  g := fun x => match x with
    | 17 => 2
    | 18 => 6
    | 19 => 7
    | n => n }
theorem lays171 : Lays.n171 Tryd.prog lays171_ren :=
  { mixed := rfl, f129 := Tryd.func104.trans (congrArg some (by kernel_rfl)), f171 := Tryd.func44.trans (congrArg some (by kernel_rfl)), f243 := Tryd.func65.trans (congrArg some (by kernel_rfl)), f246 := Tryd.func79.trans (congrArg some (by kernel_rfl)), f283 := Tryd.func90.trans (congrArg some (by kernel_rfl)), f284 := Tryd.func91.trans (congrArg some (by kernel_rfl)), f285 := Tryd.func92.trans (congrArg some (by kernel_rfl)), f286 := Tryd.func93.trans (congrArg some (by kernel_rfl)), f317 := Tryd.func103.trans (congrArg some (by kernel_rfl)), f318 := Tryd.func105.trans (congrArg some (by kernel_rfl)), f319 := Tryd.func106.trans (congrArg some (by kernel_rfl)), f320 := Tryd.func107.trans (congrArg some (by kernel_rfl)), f337 := Tryd.func115.trans (congrArg some (by kernel_rfl)), f338 := Tryd.func116.trans (congrArg some (by kernel_rfl)), t0 := Tryd.underlying0, a0 := Tryd.isAgg0, z0 := Tryd.sizeOf0, v0 := Tryd.zeroValue0, t2 := Tryd.underlying2, a2 := Tryd.isAgg2, z2 := Tryd.sizeOf2, v2 := Tryd.zeroValue2, t3 := Tryd.underlying3, a3 := Tryd.isAgg3, z3 := Tryd.sizeOf3, v3 := Tryd.zeroValue3, t4 := Tryd.underlying4, a4 := Tryd.isAgg4, z4 := Tryd.sizeOf4, v4 := Tryd.zeroValue4, t5 := Tryd.underlying5, a5 := Tryd.isAgg5, z5 := Tryd.sizeOf5, v5 := Tryd.zeroValue5, t9 := Tryd.underlying9, a9 := Tryd.isAgg9, z9 := Tryd.sizeOf9, v9 := Tryd.zeroValue9, t20 := Tryd.underlying20, a20 := Tryd.isAgg20, z20 := Tryd.sizeOf20, v20 := Tryd.zeroValue20, t37 := Tryd.underlying93, a37 := Tryd.isAgg93, z37 := Tryd.sizeOf93, v37 := Tryd.zeroValue93, t46 := Tryd.underlying85, a46 := Tryd.isAgg85, z46 := Tryd.sizeOf85, v46 := Tryd.zeroValue85, t51 := Tryd.underlying136, a51 := Tryd.isAgg136, z51 := Tryd.sizeOf136, v51 := Tryd.zeroValue136, t53 := Tryd.underlying27, a53 := Tryd.isAgg27, z53 := Tryd.sizeOf27, v53 := Tryd.zeroValue27, t171 := Tryd.underlying116, a171 := Tryd.isAgg116, z171 := Tryd.sizeOf116, v171 := Tryd.zeroValue116, t173 := Tryd.underlying119, a173 := Tryd.isAgg119, z173 := Tryd.sizeOf119, v173 := Tryd.zeroValue119, t212 := Tryd.underlying135, a212 := Tryd.isAgg135, z212 := Tryd.sizeOf135, v212 := Tryd.zeroValue135, t213 := Tryd.underlying137, a213 := Tryd.isAgg137, z213 := Tryd.sizeOf137, t232 := Tryd.underlying151, a232 := Tryd.isAgg151, z232 := Tryd.sizeOf151, v232 := Tryd.zeroValue151, t233 := Tryd.underlying152, a233 := Tryd.isAgg152, z233 := Tryd.sizeOf152, v233 := Tryd.zeroValue152, g17 := by kernel_rfl, g18 := by kernel_rfl, g19 := by kernel_rfl }
def lays156_ren : Go.Shelf.Ren :=
{
  f := fun x => match x with
    | 156 => 45
    | 165 => 66
    | 166 => 67
    | 169 => 68
    | 240 => 80
    | 241 => 81
    | 276 => 94
    | 277 => 95
    | n => n,
  t := fun x => match x with
    | 31 => 65
    | 9 => 9
    | 3 => 3
    | 4 => 4
    | 0 => 0
    | 20 => 20
    | 72 => 95
    | 76 => 89
    | 70 => 92
    | 37 => 93
    | 75 => 88
    | 127 => 107
    | 164 => 121
    | 5 => 5
    | 80 => 97
    | n => n,
  g := fun n => n }
theorem lays156 : Lays.n156 Tryd.prog lays156_ren :=
  { mixed := rfl, f156 := Tryd.func45.trans (congrArg some (by kernel_rfl)), f165 := Tryd.func66.trans (congrArg some (by kernel_rfl)), f166 := Tryd.func67.trans (congrArg some (by kernel_rfl)), f169 := Tryd.func68.trans (congrArg some (by kernel_rfl)), f240 := Tryd.func80.trans (congrArg some (by kernel_rfl)), f241 := Tryd.func81.trans (congrArg some (by kernel_rfl)), f276 := Tryd.func94.trans (congrArg some (by kernel_rfl)), f277 := Tryd.func95.trans (congrArg some (by kernel_rfl)), t0 := Tryd.underlying0, a0 := Tryd.isAgg0, z0 := Tryd.sizeOf0, v0 := Tryd.zeroValue0, t3 := Tryd.underlying3, a3 := Tryd.isAgg3, z3 := Tryd.sizeOf3, v3 := Tryd.zeroValue3, t4 := Tryd.underlying4, a4 := Tryd.isAgg4, z4 := Tryd.sizeOf4, v4 := Tryd.zeroValue4, t9 := Tryd.underlying9, a9 := Tryd.isAgg9, z9 := Tryd.sizeOf9, v9 := Tryd.zeroValue9, t20 := Tryd.underlying20, a20 := Tryd.isAgg20, z20 := Tryd.sizeOf20, v20 := Tryd.zeroValue20, t31 := Tryd.underlying65, a31 := Tryd.isAgg65, z31 := Tryd.sizeOf65, v31 := Tryd.zeroValue65, t37 := Tryd.underlying93, a37 := Tryd.isAgg93, z37 := Tryd.sizeOf93, v37 := Tryd.zeroValue93, t70 := Tryd.underlying92, a70 := Tryd.isAgg92, z70 := Tryd.sizeOf92, v70 := Tryd.zeroValue92, t72 := Tryd.underlying95, a72 := Tryd.isAgg95, z72 := Tryd.sizeOf95, v72 := Tryd.zeroValue95, t75 := Tryd.underlying88, a75 := Tryd.isAgg88, z75 := Tryd.sizeOf88, v75 := Tryd.zeroValue88, t76 := Tryd.underlying89, a76 := Tryd.isAgg89, z76 := Tryd.sizeOf89, v76 := Tryd.zeroValue89, t127 := Tryd.underlying107, a127 := Tryd.isAgg107, z127 := Tryd.sizeOf107, v127 := Tryd.zeroValue107, t164 := Tryd.underlying121, a164 := Tryd.isAgg121, z164 := Tryd.sizeOf121, v164 := Tryd.zeroValue121 }
end Go.Proofs.YtfcbhgiccgommaaDoor.F8

namespace Go.Proofs.YtfcbhgiccgommaaDoor.F8
open Go Go.Proofs Go.Proofs.YtfcbhgiccgommaaDoorAbs
set_option maxRecDepth 100000
/-! ### Itoa, Join: out of the kit's shelf -/
theorem extra156 : Builder.Extra Tryd.prog lays156_ren where
  sizeBuilder := by kernel_rfl
  liesBuilder := by kernel_rfl
  t5 := by kernel_rfl
  a5 := fun w => run_isAgg' (by kernel_rfl)
  z5 := fun w => run_sizeOf' (by kernel_rfl)
  v5 := fun w => run_zeroValue' (by kernel_rfl)
  infoByte := by kernel_rfl
  cellsByte := by kernel_rfl
  sizeByte := by kernel_rfl
  neB5 := by decide
def itoaB (i : Int) : ByteArray := ⟨(Lib.decDigits i.toNat).toArray⟩
theorem vrs_one {ρ : Nat → Option Nat} {sz : Nat → Nat} {v : Value} {cargs : Array Value} (h : VRs ρ sz [v] cargs.toList) : ∃ cv, cargs = #[cv] ∧ VRel ρ sz v cv := by
  obtain ⟨l⟩ := cargs
  match l, h with
  | [], h => exact absurd h.len (by simp)
  | [a], h => exact ⟨a, rfl, h.at_ 0 (by simp) (by simp)⟩
  | a :: b :: r, h => exact absurd h.len (by simp)
theorem vrs_two {ρ : Nat → Option Nat} {sz : Nat → Nat} {v u : Value} {cargs : Array Value} (h : VRs ρ sz [v, u] cargs.toList) : ∃ cv cu, cargs = #[cv, cu] ∧ VRel ρ sz v cv ∧ VRel ρ sz u cu := by
  obtain ⟨l⟩ := cargs
  match l, h with
  | [], h => exact absurd h.len (by simp)
  | [a], h => exact absurd h.len (by simp)
  | [a, b], h => exact ⟨a, b, rfl, h.at_ 0 (by simp) (by simp), h.at_ 1 (by simp) (by simp)⟩
  | a :: b :: c :: r, h => exact absurd h.len (by simp)
theorem strconv_ItoaS {i : Int} (h0 : 0 ≤ i) (h1 : i < 100) (g : AMem) (n : Nat) : FnC Tryd.prog f_strconv_Itoa [.int .i64 i] g n (fun _ => False) (.string (itoaB i)) g n := by
  refine fnC_of_below (by kernel_rfl) rfl fun ρ w cargs hrep hargs => ?_
  obtain ⟨cv, rfl, hc⟩ := vrs_one hargs
  cases hc
  have h := Any.strconv_Itoa_small lays171 i.toNat (by omega) w
  rw [show ((i.toNat : Nat) : Int) = i by omega] at h
  exact Calls.mono h fun e w' ⟨h1, h2⟩ => ⟨h1, h2 ▸ Go.RowKit.Below.refl _ _⟩
def itoaE (args : List Value) (g : AMem) (n : Nat) : Option Value := match args with
  | [.int .i64 i] => if 0 ≤ i ∧ i < 100 then some (.string (itoaB i)) else none
  | _ => none
theorem itoaE_ok : ExtOne Tryd.prog f_strconv_Itoa itoaE := fun args g n v hd he => by
  unfold itoaE at he
  split at he
  · split at he
    · rename_i hi
      cases he
      exact ⟨by kernel_rfl, strconv_ItoaS hi.1 hi.2 g n⟩
    · cases he
  · cases he
def joinB (xs : List ByteArray) (sep : ByteArray) : ByteArray := ⟨(Lib.join (xs.map (·.data.toList)) sep.data.toList).toArray⟩
theorem strings_JoinC (b o m : Nat) (xs : List ByteArray) (hm : m = xs.length) (sep : ByteArray) (g : AMem) (n : Nat) (h : aRead g 1 (.slice (some ⟨b, o, none⟩) m 1) = some (m, xs.map Value.string)) (h0 : 0 < xs.length) (hN : xs.length ≤ 140737488355328)
    (hlen : (Lib.join (xs.map (·.data.toList)) sep.data.toList).length ≤ 140737488355328) : FnC Tryd.prog f_strings_Join [.slice (some ⟨b, o, none⟩) m 1, .string sep] g n (fun _ => False) (.string (joinB xs sep)) g n := by
  refine fnC_of_below (by kernel_rfl) rfl fun ρ w cargs hrep hargs => ?_
  obtain ⟨cv, cu, rfl, hc, hu⟩ := vrs_two hargs
  cases hu
  obtain ⟨ys, e1, e2, e3⟩ := aRead_sound hrep hc h
  cases hc with
  | sliceLost _ _ _ _ hs => cases hs
  | sliceFull _ _ _ hs => cases hs
  | slice _ _ _ _ b' c hb hn hcap =>
    rcases e3 with ⟨e, _⟩ | ⟨a, c', e, hcell⟩
    · cases e
    · simp only [Value.slice.injEq, Option.some.injEq] at e
      obtain ⟨rfl, _, rfl⟩ := e
      subst hm
      refine Any.strings_Join lays156 extra156 b' o c xs sep w (fun j x hj => ?_) (hrep.old _ _ hb) hN hn hlen
      have hjl : j < xs.length := (List.getElem?_eq_some_iff.1 hj).1
      have hy : j < ys.length := by rw [← e2.len]; simpa using hjl
      have hr := e2.at_ j (by simpa using hjl) hy
      have hx : (xs.map Value.string)[j]'(by simpa using hjl) = .string x := by
        rw [List.getElem_map]; congr 1; exact (List.getElem?_eq_some_iff.1 hj).2
      rw [hx] at hr
      have hv : ys[j] = .string x := by cases hyj : ys[j] <;> rw [hyj] at hr <;> cases hr; rfl
      have := hcell j (.string x) (by rw [List.getElem?_eq_getElem hy, hv])
      have e : Addr.add ⟨b', o, none⟩ j = ⟨b', o + j, none⟩ := by
        unfold Addr.add
        by_cases h : j = 0
        · subst h; rfl
        · simp [h]
      rw [← e]; exact this
def strsOf : List Value → Option (List ByteArray)
  | [] => some []
  | .string s :: r => (strsOf r).map (s :: ·)
  | _ :: _ => none
theorem strsOf_map : ∀ (l : List Value) (xs : List ByteArray), strsOf l = some xs → l = xs.map Value.string
  | [], xs, h => by cases h; rfl
  | v :: r, xs, h => by
    cases v <;> simp only [strsOf] at h <;> try (cases h; done)
    rename_i s
    obtain ⟨ys, h1, rfl⟩ := Option.map_eq_some_iff.1 h
    rw [List.map_cons, ← strsOf_map r ys h1]
def joinE (args : List Value) (g : AMem) (n : Nat) : Option Value := match args with
  | [.slice (some ⟨b, o, none⟩) m 1, .string sep] => match aRead g 1 (.slice (some ⟨b, o, none⟩) m 1) with
    | some (_, ys) => match strsOf ys with
      | some xs => if m = xs.length ∧ 0 < m ∧ m ≤ 1000 ∧ (Lib.join (xs.map (·.data.toList)) sep.data.toList).length ≤ 140737488355328 then some (.string (joinB xs sep)) else none
      | none => none
    | none => none
  | _ => none
theorem joinE_ok : ExtOne Tryd.prog f_strings_Join joinE := fun args g n v hd he => by
  unfold joinE at he
  split at he
  · rename_i b o m sep
    split at he
    · rename_i k ys hr
      split at he
      · rename_i xs hs
        split at he
        · rename_i hc
          obtain ⟨rfl, h2, h3, h4⟩ := hc
          cases he
          have e := strsOf_map _ _ hs
          subst e
          have hk : k = xs.length := by
            rw [aRead_at, if_neg (by omega)] at hr
            unfold readR at hr
            split at hr
            · split at hr
              · simp only [Option.some.injEq, Prod.mk.injEq] at hr; exact hr.1.symm
              · cases hr
            · cases hr
          subst hk
          exact ⟨by kernel_rfl, strings_JoinC b o _ xs rfl sep g n hr h2 (by omega) h4⟩
        · cases he
      · cases he
    · cases he
  · cases he
def ext : XExt := [(f_strconv_Itoa, itoaE), (f_strings_Join, joinE)]
theorem extOk : ExtOk Tryd.prog ext := ExtOk.cons itoaE_ok (ExtOk.cons joinE_ok ExtOk.nil)
end Go.Proofs.YtfcbhgiccgommaaDoor.F8

namespace Go.Proofs.YtfcbhgiccgommaaDoor.F8
open Go Go.Proofs Go.Proofs.YtfcbhgiccgommaaDoorAbs
set_option maxHeartbeats 4000000
set_option maxRecDepth 100000
/-! ### What may be -/
abbrev c4 (a b c d : Int) : Value := .agg #[.int .i64 a, .int .i64 b, .int .i64 c, .int .i64 d]
def noneC (a b c d : Int) : Bool := decide (a = 0 ∧ b = 0 ∧ c = 0 ∧ d = 0)
def goodC (a b c d : Int) : Bool := noneC a b c d || decide (1 ≤ a ∧ a ≤ 5 ∧ 0 ≤ b ∧ b ≤ 47 ∧ 0 ≤ c ∧ c ≤ 7 ∧ 0 ≤ d ∧ d ≤ 65535 ∧ (d = 0 ∨ a = 3 ∨ a = 4))
theorem noneC_iff {a b c d : Int} : noneC a b c d = true ↔ a = 0 ∧ b = 0 ∧ c = 0 ∧ d = 0 := by unfold noneC; simp
theorem goodC_iff {a b c d : Int} : goodC a b c d = true ↔ (a = 0 ∧ b = 0 ∧ c = 0 ∧ d = 0) ∨ (1 ≤ a ∧ a ≤ 5 ∧ 0 ≤ b ∧ b ≤ 47 ∧ 0 ≤ c ∧ c ≤ 7 ∧ 0 ≤ d ∧ d ≤ 65535 ∧ (d = 0 ∨ a = 3 ∨ a = 4)) := by
  unfold goodC; rw [Bool.or_eq_true, noneC_iff, decide_eq_true_eq]
theorem cap_in (x lo hi : Int) (g : AMem) (n : Nat) : FnC Tryd.prog f_cap_in [.int .i64 x, .int .i64 lo, .int .i64 hi] g n (fun _ => False) (.bool (decide (lo ≤ x ∧ x ≤ hi))) g n := by
  refine fnC_of_rwp t_cap_in hm rfl fun hdom => ?_
  by_cases c : lo ≤ x
  · simp (maxSteps := 1000000) (disch := first | assumption | omega | rfl | decide | simp only [fitsR, Bool.and_self]) [↓rules, rules, ↓rulesDp, rulesDq, lit_u64, Int.ofNat_inj, stops, rc_cap_in, q_int, q_bool, c]
    refine done_q hdom (by repeat first | exact Kept.refl hdom | refine Kept.new ?_ _ | refine Kept.drop ?_ (by omega) | refine Kept.put ?_ (by omega) (by omega) _ | refine Kept.skip ?_) rfl ?_
    first | rfl | (simp [c]; rfl) | (simp [aResults, aRes, c]; rfl)
  · simp (maxSteps := 1000000) (disch := first | assumption | omega | rfl | decide | simp only [fitsR, Bool.and_self]) [↓rules, rules, ↓rulesDp, rulesDq, lit_u64, Int.ofNat_inj, stops, rc_cap_in, q_int, q_bool, c]
    refine done_q hdom (by repeat first | exact Kept.refl hdom | refine Kept.new ?_ _ | refine Kept.drop ?_ (by omega) | refine Kept.put ?_ (by omega) (by omega) _ | refine Kept.skip ?_) rfl ?_
    first | rfl | (simp [c]; rfl) | (simp [aResults, aRes, c]; rfl)
theorem right_Good (r : Int) (g : AMem) (n : Nat) : FnC Tryd.prog f_right_Good [.int .i64 r] g n (fun _ => False) (.bool (decide (0 ≤ r ∧ r ≤ 7))) g n := by
  refine fnC_of_rwp t_right_Good hm rfl fun hdom => ?_
  by_cases c : 0 ≤ r
  · simp (maxSteps := 1000000) (disch := first | assumption | omega | rfl | decide | simp only [fitsR, Bool.and_self]) [↓rules, rules, ↓rulesDp, rulesDq, lit_u64, Int.ofNat_inj, stops, rc_right_Good, q_int, q_bool, c]
    refine done_q hdom (by repeat first | exact Kept.refl hdom | refine Kept.new ?_ _ | refine Kept.drop ?_ (by omega) | refine Kept.put ?_ (by omega) (by omega) _ | refine Kept.skip ?_) rfl ?_
    first | rfl | (simp [c]; rfl) | (simp [aResults, aRes, c]; rfl)
  · simp (maxSteps := 1000000) (disch := first | assumption | omega | rfl | decide | simp only [fitsR, Bool.and_self]) [↓rules, rules, ↓rulesDp, rulesDq, lit_u64, Int.ofNat_inj, stops, rc_right_Good, q_int, q_bool, c]
    refine done_q hdom (by repeat first | exact Kept.refl hdom | refine Kept.new ?_ _ | refine Kept.drop ?_ (by omega) | refine Kept.put ?_ (by omega) (by omega) _ | refine Kept.skip ?_) rfl ?_
    first | rfl | (simp [c]; rfl) | (simp [aResults, aRes, c]; rfl)
theorem right_Badge (r : Int) (g : AMem) (n : Nat) : FnC Tryd.prog f_right_Badge [.int .i64 r] g n (fun _ => False) (.bool (decide (0 ≤ r ∧ r ≤ 65535))) g n := by
  refine fnC_of_rwp t_right_Badge hm rfl fun hdom => ?_
  by_cases c : 0 ≤ r
  · simp (maxSteps := 1000000) (disch := first | assumption | omega | rfl | decide | simp only [fitsR, Bool.and_self]) [↓rules, rules, ↓rulesDp, rulesDq, lit_u64, Int.ofNat_inj, stops, rc_right_Badge, q_int, q_bool, c]
    refine done_q hdom (by repeat first | exact Kept.refl hdom | refine Kept.new ?_ _ | refine Kept.drop ?_ (by omega) | refine Kept.put ?_ (by omega) (by omega) _ | refine Kept.skip ?_) rfl ?_
    first | rfl | (simp [c]; rfl) | (simp [aResults, aRes, c]; rfl)
  · simp (maxSteps := 1000000) (disch := first | assumption | omega | rfl | decide | simp only [fitsR, Bool.and_self]) [↓rules, rules, ↓rulesDp, rulesDq, lit_u64, Int.ofNat_inj, stops, rc_right_Badge, q_int, q_bool, c]
    refine done_q hdom (by repeat first | exact Kept.refl hdom | refine Kept.new ?_ _ | refine Kept.drop ?_ (by omega) | refine Kept.put ?_ (by omega) (by omega) _ | refine Kept.skip ?_) rfl ?_
    first | rfl | (simp [c]; rfl) | (simp [aResults, aRes, c]; rfl)
theorem cap_badged (a : Int) (g : AMem) (n : Nat) : FnC Tryd.prog f_cap_badged [.int .i64 a] g n (fun _ => False) (.bool (decide (a = 3 ∨ a = 4))) g n := by
  refine fnC_of_rwp t_cap_badged hm rfl fun hdom => ?_
  by_cases c : a = 3
  · simp (maxSteps := 1000000) (disch := first | assumption | omega | rfl | decide | simp only [fitsR, Bool.and_self]) [↓rules, rules, ↓rulesDp, rulesDq, lit_u64, Int.ofNat_inj, stops, rc_cap_badged, q_int, q_bool, c]
    refine done_q hdom (by repeat first | exact Kept.refl hdom | refine Kept.new ?_ _ | refine Kept.drop ?_ (by omega) | refine Kept.put ?_ (by omega) (by omega) _ | refine Kept.skip ?_) rfl ?_
    first | rfl | (simp [c]; rfl) | (simp [aResults, aRes, c]; rfl)
  · simp (maxSteps := 1000000) (disch := first | assumption | omega | rfl | decide | simp only [fitsR, Bool.and_self]) [↓rules, rules, ↓rulesDp, rulesDq, lit_u64, Int.ofNat_inj, stops, rc_cap_badged, q_int, q_bool, c]
    refine done_q hdom (by repeat first | exact Kept.refl hdom | refine Kept.new ?_ _ | refine Kept.drop ?_ (by omega) | refine Kept.put ?_ (by omega) (by omega) _ | refine Kept.skip ?_) rfl ?_
    first | rfl | (simp [c]; rfl) | (simp [aResults, aRes, c]; rfl)
theorem cap_None (a b c d : Int) (g : AMem) (n : Nat) : FnC Tryd.prog f_cap_None [c4 a b c d] g n (fun _ => False) (.bool (noneC a b c d)) g n := by
  refine fnC_of_rwp t_cap_None hm rfl fun hdom => ?_
  simp (maxSteps := 1000000) (disch := first | assumption | omega | rfl | decide | simp only [fitsR, Bool.and_self]) [↓rules, rules, ↓rulesDp, rulesDq, lit_u64, Int.ofNat_inj, stops, rc_cap_None, q_int, q_bool, q_cap_Cap, beq_cap_Cap]
  refine done_q hdom (by repeat first | exact Kept.refl hdom | refine Kept.new ?_ _ | refine Kept.drop ?_ (by omega) | refine Kept.put ?_ (by omega) (by omega) _ | refine Kept.skip ?_) rfl ?_
  unfold noneC
  first | rfl | (simp [Bool.decide_and]; rfl)
theorem goodC_no {a b c d : Int} (h : ¬ ((a = 0 ∧ b = 0 ∧ c = 0 ∧ d = 0) ∨ (1 ≤ a ∧ a ≤ 5 ∧ 0 ≤ b ∧ b ≤ 47 ∧ 0 ≤ c ∧ c ≤ 7 ∧ 0 ≤ d ∧ d ≤ 65535 ∧ (d = 0 ∨ a = 3 ∨ a = 4)))) : goodC a b c d = false := by
  cases e : goodC a b c d
  · rfl
  · exact absurd (goodC_iff.1 e) h
theorem cap_Good (a b c d : Int) (g : AMem) (n : Nat) : FnC Tryd.prog f_cap_Good [c4 a b c d] g n (fun _ => False) (.bool (goodC a b c d)) g n := by
  refine fnC_of_rwp t_cap_Good hm rfl fun hdom => ?_
  simp (maxSteps := 1000000) (disch := first | assumption | omega | rfl | decide | simp only [fitsR, Bool.and_self]) [↓rules, rules, ↓rulesDp, rulesDq, lit_u64, Int.ofNat_inj, stops, rc_cap_Good, q_int, q_bool, q_cap_Cap]
  refine rcall_quiet rfl (cap_None _ _ _ _ _ _) ?_
  cases cn : noneC a b c d
  case true =>
    rw [goodC_iff.2 (.inl (noneC_iff.1 cn))]
    simp (maxSteps := 1000000) (disch := first | assumption | omega | rfl | decide | simp only [fitsR, Bool.and_self]) [↓rules, rules, ↓rulesDp, rulesDq, lit_u64, Int.ofNat_inj, stops, q_int, q_bool, q_cap_Cap]
    exact done_q hdom (by repeat first | exact Kept.refl hdom | refine Kept.new ?_ _ | refine Kept.drop ?_ (by omega) | refine Kept.put ?_ (by omega) (by omega) _ | refine Kept.skip ?_) rfl rfl
  have cn' : ¬ (a = 0 ∧ b = 0 ∧ c = 0 ∧ d = 0) := fun h => by rw [noneC_iff.2 h] at cn; cases cn
  have kn := (Kept.refl hdom).new (.row [.int .i64 a, .int .i64 b, .int .i64 c, .int .i64 d] true)
  simp (maxSteps := 1000000) (disch := first | assumption | omega | rfl | decide | simp only [fitsR, Bool.and_self]) [↓rules, rules, ↓rulesDp, rulesDq, lit_u64, Int.ofNat_inj, stops, q_int, q_bool, q_cap_Cap]
  refine rcall_quiet rfl (cap_in _ _ _ _ _) ?_
  by_cases c1 : 1 ≤ a ∧ a ≤ 5
  case neg =>
    rw [goodC_no (by omega)]
    simp (maxSteps := 1000000) (disch := first | assumption | omega | rfl | decide | simp only [fitsR, Bool.and_self]) [↓rules, rules, ↓rulesDp, rulesDq, lit_u64, Int.ofNat_inj, stops, q_int, q_bool, q_cap_Cap, c1]
    exact done_q hdom kn rfl rfl
  simp (maxSteps := 1000000) (disch := first | assumption | omega | rfl | decide | simp only [fitsR, Bool.and_self]) [↓rules, rules, ↓rulesDp, rulesDq, lit_u64, Int.ofNat_inj, stops, q_int, q_bool, q_cap_Cap, c1]
  refine rcall_quiet rfl (cap_in _ _ _ _ _) ?_
  by_cases c2 : 0 ≤ b ∧ b ≤ 47
  case neg =>
    rw [goodC_no (by omega)]
    simp (maxSteps := 1000000) (disch := first | assumption | omega | rfl | decide | simp only [fitsR, Bool.and_self]) [↓rules, rules, ↓rulesDp, rulesDq, lit_u64, Int.ofNat_inj, stops, q_int, q_bool, q_cap_Cap, c2]
    exact done_q hdom kn rfl rfl
  simp (maxSteps := 1000000) (disch := first | assumption | omega | rfl | decide | simp only [fitsR, Bool.and_self]) [↓rules, rules, ↓rulesDp, rulesDq, lit_u64, Int.ofNat_inj, stops, q_int, q_bool, q_cap_Cap, c2]
  refine rcall_quiet rfl (right_Good _ _ _) ?_
  by_cases c3 : 0 ≤ c ∧ c ≤ 7
  case neg =>
    rw [goodC_no (by omega)]
    simp (maxSteps := 1000000) (disch := first | assumption | omega | rfl | decide | simp only [fitsR, Bool.and_self]) [↓rules, rules, ↓rulesDp, rulesDq, lit_u64, Int.ofNat_inj, stops, q_int, q_bool, q_cap_Cap, c3]
    exact done_q hdom kn rfl rfl
  simp (maxSteps := 1000000) (disch := first | assumption | omega | rfl | decide | simp only [fitsR, Bool.and_self]) [↓rules, rules, ↓rulesDp, rulesDq, lit_u64, Int.ofNat_inj, stops, q_int, q_bool, q_cap_Cap, c3]
  refine rcall_quiet rfl (right_Badge _ _ _) ?_
  by_cases c4 : 0 ≤ d ∧ d ≤ 65535
  case neg =>
    rw [goodC_no (by omega)]
    simp (maxSteps := 1000000) (disch := first | assumption | omega | rfl | decide | simp only [fitsR, Bool.and_self]) [↓rules, rules, ↓rulesDp, rulesDq, lit_u64, Int.ofNat_inj, stops, q_int, q_bool, q_cap_Cap, c4]
    exact done_q hdom kn rfl rfl
  by_cases c5 : d = 0
  · subst c5
    rw [goodC_iff.2 (by omega)]
    simp (maxSteps := 1000000) (disch := first | assumption | omega | rfl | decide | simp only [fitsR, Bool.and_self]) [↓rules, rules, ↓rulesDp, rulesDq, lit_u64, Int.ofNat_inj, stops, q_int, q_bool, q_cap_Cap]
    exact done_q hdom kn rfl rfl
  simp (maxSteps := 1000000) (disch := first | assumption | omega | rfl | decide | simp only [fitsR, Bool.and_self]) [↓rules, rules, ↓rulesDp, rulesDq, lit_u64, Int.ofNat_inj, stops, q_int, q_bool, q_cap_Cap, c4, c5]
  refine rcall_quiet rfl (cap_badged _ _ _) ?_
  by_cases c6 : a = 3 ∨ a = 4
  · rw [goodC_iff.2 (by omega), decide_eq_true c6]
    simp (maxSteps := 1000000) (disch := first | assumption | omega | rfl | decide | simp only [fitsR, Bool.and_self]) [↓rules, rules, ↓rulesDp, rulesDq, lit_u64, Int.ofNat_inj, stops, q_int, q_bool, q_cap_Cap]
    exact done_q hdom kn rfl rfl
  · rw [goodC_no (by omega), decide_eq_false c6]
    simp (maxSteps := 1000000) (disch := first | assumption | omega | rfl | decide | simp only [fitsR, Bool.and_self]) [↓rules, rules, ↓rulesDp, rulesDq, lit_u64, Int.ofNat_inj, stops, q_int, q_bool, q_cap_Cap]
    exact done_q hdom kn rfl rfl
/-! ### Rights -/
def ofR (r : Int) : Int := if 0 ≤ r ∧ r ≤ 7 then r else 0
def bothR (r s : Int) : Int := bAnd .i64 (ofR r) (ofR s)
def lessR (r s : Int) : Int := bAndNot .i64 (ofR r) (ofR s)
theorem right_of (r : Int) (g : AMem) (n : Nat) : FnC Tryd.prog f_right_of [.int .i64 r] g n (fun _ => False) (.int .i64 (ofR r)) g n := by
  refine fnC_of_rwp t_right_of hm rfl fun hdom => ?_
  simp (maxSteps := 1000000) (disch := first | assumption | omega | rfl | decide | simp only [fitsR, Bool.and_self]) [↓rules, rules, ↓rulesDp, rulesDq, lit_u64, Int.ofNat_inj, stops, rc_right_of, q_int, q_bool]
  refine rcall_quiet rfl (right_Good _ _ _) ?_
  unfold ofR
  by_cases c : 0 ≤ r ∧ r ≤ 7
  · rw [if_pos c]
    simp (maxSteps := 1000000) (disch := first | assumption | omega | rfl | decide | simp only [fitsR, Bool.and_self]) [↓rules, rules, ↓rulesDp, rulesDq, lit_u64, Int.ofNat_inj, stops, q_int, q_bool, c]
    exact done_q hdom (by repeat first | exact Kept.refl hdom | refine Kept.new ?_ _ | refine Kept.drop ?_ (by omega) | refine Kept.put ?_ (by omega) (by omega) _ | refine Kept.skip ?_) rfl rfl
  · rw [if_neg c]
    simp (maxSteps := 1000000) (disch := first | assumption | omega | rfl | decide | simp only [fitsR, Bool.and_self]) [↓rules, rules, ↓rulesDp, rulesDq, lit_u64, Int.ofNat_inj, stops, q_int, q_bool, c]
    exact done_q hdom (by repeat first | exact Kept.refl hdom | refine Kept.new ?_ _ | refine Kept.drop ?_ (by omega) | refine Kept.put ?_ (by omega) (by omega) _ | refine Kept.skip ?_) rfl rfl
theorem right_Both (r s : Int) (g : AMem) (n : Nat) : FnC Tryd.prog f_right_Both [.int .i64 r, .int .i64 s] g n (fun _ => False) (.int .i64 (bothR r s)) g n := by
  refine fnC_of_rwp t_right_Both hm rfl fun hdom => ?_
  simp (maxSteps := 1000000) (disch := first | assumption | omega | rfl | decide | simp only [fitsR, Bool.and_self]) [↓rules, rules, ↓rulesDp, rulesDq, lit_u64, Int.ofNat_inj, stops, rc_right_Both, q_int]
  refine rcall_quiet rfl (right_of _ _ _) ?_
  simp (maxSteps := 1000000) (disch := first | assumption | omega | rfl | decide | simp only [fitsR, Bool.and_self]) [↓rules, rules, ↓rulesDp, rulesDq, lit_u64, Int.ofNat_inj, stops, q_int]
  refine rcall_quiet rfl (right_of _ _ _) ?_
  simp (maxSteps := 1000000) (disch := first | assumption | omega | rfl | decide | simp only [fitsR, Bool.and_self]) [↓rules, rules, ↓rulesDp, rulesDq, lit_u64, Int.ofNat_inj, stops, q_int]
  exact done_q hdom (by repeat first | exact Kept.refl hdom | refine Kept.new ?_ _ | refine Kept.drop ?_ (by omega) | refine Kept.put ?_ (by omega) (by omega) _ | refine Kept.skip ?_) rfl rfl
theorem right_Less (r s : Int) (g : AMem) (n : Nat) : FnC Tryd.prog f_right_Less [.int .i64 r, .int .i64 s] g n (fun _ => False) (.int .i64 (lessR r s)) g n := by
  refine fnC_of_rwp t_right_Less hm rfl fun hdom => ?_
  simp (maxSteps := 1000000) (disch := first | assumption | omega | rfl | decide | simp only [fitsR, Bool.and_self]) [↓rules, rules, ↓rulesDp, rulesDq, lit_u64, Int.ofNat_inj, stops, rc_right_Less, q_int]
  refine rcall_quiet rfl (right_of _ _ _) ?_
  simp (maxSteps := 1000000) (disch := first | assumption | omega | rfl | decide | simp only [fitsR, Bool.and_self]) [↓rules, rules, ↓rulesDp, rulesDq, lit_u64, Int.ofNat_inj, stops, q_int]
  refine rcall_quiet rfl (right_of _ _ _) ?_
  simp (maxSteps := 1000000) (disch := first | assumption | omega | rfl | decide | simp only [fitsR, Bool.and_self]) [↓rules, rules, ↓rulesDp, rulesDq, lit_u64, Int.ofNat_inj, stops, q_int]
  exact done_q hdom (by repeat first | exact Kept.refl hdom | refine Kept.new ?_ _ | refine Kept.drop ?_ (by omega) | refine Kept.put ?_ (by omega) (by omega) _ | refine Kept.skip ?_) rfl rfl
theorem right_Within (r s : Int) (g : AMem) (n : Nat) : FnC Tryd.prog f_right_Within [.int .i64 r, .int .i64 s] g n (fun _ => False) (.bool (decide (lessR r s = 0))) g n := by
  refine fnC_of_rwp t_right_Within hm rfl fun hdom => ?_
  simp (maxSteps := 1000000) (disch := first | assumption | omega | rfl | decide | simp only [fitsR, Bool.and_self]) [↓rules, rules, ↓rulesDp, rulesDq, lit_u64, Int.ofNat_inj, stops, rc_right_Within, q_int, q_bool]
  refine rcall_quiet rfl (right_Less _ _ _ _) ?_
  simp (maxSteps := 1000000) (disch := first | assumption | omega | rfl | decide | simp only [fitsR, Bool.and_self]) [↓rules, rules, ↓rulesDp, rulesDq, lit_u64, Int.ofNat_inj, stops, q_int, q_bool]
  exact done_q hdom (by repeat first | exact Kept.refl hdom | refine Kept.new ?_ _ | refine Kept.drop ?_ (by omega) | refine Kept.put ?_ (by omega) (by omega) _ | refine Kept.skip ?_) rfl rfl
def cutC (a b c d r : Int) : Int × Int × Int × Int := if goodC a b c d = true then (a, b, bothR c r, d) else (0, 0, 0, 0)
abbrev c4p (x : Int × Int × Int × Int) : Value := c4 x.1 x.2.1 x.2.2.1 x.2.2.2
theorem cap_Cut (a b c d r : Int) (g : AMem) (n : Nat) : FnC Tryd.prog f_cap_Cut [c4 a b c d, .int .i64 r] g n (fun _ => False) (c4p (cutC a b c d r)) g n := by
  refine fnC_of_rwp t_cap_Cut hm rfl fun hdom => ?_
  simp (maxSteps := 1000000) (disch := first | assumption | omega | rfl | decide | simp only [fitsR, Bool.and_self]) [↓rules, rules, ↓rulesDp, rulesDq, lit_u64, Int.ofNat_inj, stops, rc_cap_Cut, q_int, q_bool, q_cap_Cap]
  refine rcall_quiet rfl (cap_Good _ _ _ _ _ _) ?_
  unfold cutC
  cases cg : goodC a b c d
  · simp (maxSteps := 1000000) (disch := first | assumption | omega | rfl | decide | simp only [fitsR, Bool.and_self]) [↓rules, rules, ↓rulesDp, rulesDq, lit_u64, Int.ofNat_inj, stops, q_int, q_bool, q_cap_Cap]
    refine done_q hdom (by repeat first | exact Kept.refl hdom | refine Kept.new ?_ _ | refine Kept.drop ?_ (by omega) | refine Kept.put ?_ (by omega) (by omega) _ | refine Kept.skip ?_) rfl ?_
    simp (maxSteps := 1000000) (disch := first | assumption | omega | rfl | decide | simp only [fitsR, Bool.and_self]) [↓rules, rules, ↓rulesDp, rulesDq, lit_u64, Int.ofNat_inj, stops, aResults, aRes, q_int, q_bool, q_cap_Cap]
  · simp (maxSteps := 1000000) (disch := first | assumption | omega | rfl | decide | simp only [fitsR, Bool.and_self]) [↓rules, rules, ↓rulesDp, rulesDq, lit_u64, Int.ofNat_inj, stops, q_int, q_bool, q_cap_Cap]
    refine rcall_quiet rfl (right_Both _ _ _ _) ?_
    simp (maxSteps := 1000000) (disch := first | assumption | omega | rfl | decide | simp only [fitsR, Bool.and_self]) [↓rules, rules, ↓rulesDp, rulesDq, lit_u64, Int.ofNat_inj, stops, q_int, q_bool, q_cap_Cap]
    refine done_q hdom (((((Kept.refl hdom).new _).new _).put (by omega) (by omega) _).put (by omega) (by omega) _) rfl ?_
    simp (maxSteps := 1000000) (disch := first | assumption | omega | rfl | decide | simp only [fitsR, Bool.and_self]) [↓rules, rules, ↓rulesDp, rulesDq, lit_u64, Int.ofNat_inj, stops, aResults, aRes, q_int, q_bool, q_cap_Cap]
def stampC (a b c d k : Int) : (Int × Int × Int × Int) × Int :=
  if goodC a b c d = false ∨ ¬ (0 ≤ k ∧ k ≤ 65535) ∨ k = 0 then ((0, 0, 0, 0), 1) else if ¬ (a = 3 ∨ a = 4) then ((0, 0, 0, 0), 7) else if d ≠ 0 then ((0, 0, 0, 0), 5) else ((a, b, c, k), 0)
theorem cap_Stamp (a b c d k : Int) (g : AMem) (n : Nat) : FnC Tryd.prog f_cap_Stamp [c4 a b c d, .int .i64 k] g n (fun _ => False) (.tuple #[c4p (stampC a b c d k).1, .int .i64 (stampC a b c d k).2]) g n := by
  refine fnC_of_rwp t_cap_Stamp hm rfl fun hdom => ?_
  simp (maxSteps := 1000000) (disch := first | assumption | omega | rfl | decide | simp only [fitsR, Bool.and_self]) [↓rules, rules, ↓rulesDp, rulesDq, lit_u64, Int.ofNat_inj, stops, rc_cap_Stamp, q_int, q_bool, q_cap_Cap, q_api_Errno]
  refine rcall_quiet rfl (cap_Good _ _ _ _ _ _) ?_
  cases cg : goodC a b c d
  · rw [show stampC a b c d k = ((0, 0, 0, 0), 1) from if_pos (.inl cg)]
    simp (maxSteps := 1000000) (disch := first | assumption | omega | rfl | decide | simp only [fitsR, Bool.and_self]) [↓rules, rules, ↓rulesDp, rulesDq, lit_u64, Int.ofNat_inj, stops, q_int, q_bool, q_cap_Cap, q_api_Errno]
    refine done_q hdom (by repeat first | exact Kept.refl hdom | refine Kept.new ?_ _ | refine Kept.drop ?_ (by omega) | refine Kept.put ?_ (by omega) (by omega) _ | refine Kept.skip ?_) rfl ?_
    simp (maxSteps := 1000000) (disch := first | assumption | omega | rfl | decide | simp only [fitsR, Bool.and_self]) [↓rules, rules, ↓rulesDp, rulesDq, lit_u64, Int.ofNat_inj, stops, aResults, aRes, q_int, q_bool, q_cap_Cap, q_api_Errno]
  simp (maxSteps := 1000000) (disch := first | assumption | omega | rfl | decide | simp only [fitsR, Bool.and_self]) [↓rules, rules, ↓rulesDp, rulesDq, lit_u64, Int.ofNat_inj, stops, q_int, q_bool, q_cap_Cap, q_api_Errno]
  refine rcall_quiet rfl (right_Badge _ _ _) ?_
  by_cases c1 : 0 ≤ k ∧ k ≤ 65535
  case neg =>
    rw [show stampC a b c d k = ((0, 0, 0, 0), 1) from if_pos (.inr (.inl c1))]
    simp (maxSteps := 1000000) (disch := first | assumption | omega | rfl | decide | simp only [fitsR, Bool.and_self]) [↓rules, rules, ↓rulesDp, rulesDq, lit_u64, Int.ofNat_inj, stops, q_int, q_bool, q_cap_Cap, q_api_Errno, c1]
    refine done_q hdom (by repeat first | exact Kept.refl hdom | refine Kept.new ?_ _ | refine Kept.drop ?_ (by omega) | refine Kept.put ?_ (by omega) (by omega) _ | refine Kept.skip ?_) rfl ?_
    simp (maxSteps := 1000000) (disch := first | assumption | omega | rfl | decide | simp only [fitsR, Bool.and_self]) [↓rules, rules, ↓rulesDp, rulesDq, lit_u64, Int.ofNat_inj, stops, aResults, aRes, q_int, q_bool, q_cap_Cap, q_api_Errno]
  by_cases c2 : k = 0
  · rw [show stampC a b c d k = ((0, 0, 0, 0), 1) from if_pos (.inr (.inr c2))]
    simp (maxSteps := 1000000) (disch := first | assumption | omega | rfl | decide | simp only [fitsR, Bool.and_self]) [↓rules, rules, ↓rulesDp, rulesDq, lit_u64, Int.ofNat_inj, stops, q_int, q_bool, q_cap_Cap, q_api_Errno, c1, c2]
    refine done_q hdom (by repeat first | exact Kept.refl hdom | refine Kept.new ?_ _ | refine Kept.drop ?_ (by omega) | refine Kept.put ?_ (by omega) (by omega) _ | refine Kept.skip ?_) rfl ?_
    simp (maxSteps := 1000000) (disch := first | assumption | omega | rfl | decide | simp only [fitsR, Bool.and_self]) [↓rules, rules, ↓rulesDp, rulesDq, lit_u64, Int.ofNat_inj, stops, aResults, aRes, q_int, q_bool, q_cap_Cap, q_api_Errno]
  simp (maxSteps := 1000000) (disch := first | assumption | omega | rfl | decide | simp only [fitsR, Bool.and_self]) [↓rules, rules, ↓rulesDp, rulesDq, lit_u64, Int.ofNat_inj, stops, q_int, q_bool, q_cap_Cap, q_api_Errno, c1, c2]
  refine rcall_quiet rfl (cap_badged _ _ _) ?_
  have cb : ¬ (goodC a b c d = false ∨ ¬ (0 ≤ k ∧ k ≤ 65535) ∨ k = 0) := by rw [cg]; simp; omega
  by_cases c3 : a = 3 ∨ a = 4
  case neg =>
    rw [show stampC a b c d k = ((0, 0, 0, 0), 7) by unfold stampC; rw [if_neg cb, if_pos c3]]
    simp (maxSteps := 1000000) (disch := first | assumption | omega | rfl | decide | simp only [fitsR, Bool.and_self]) [↓rules, rules, ↓rulesDp, rulesDq, lit_u64, Int.ofNat_inj, stops, q_int, q_bool, q_cap_Cap, q_api_Errno, c3]
    refine done_q hdom (by repeat first | exact Kept.refl hdom | refine Kept.new ?_ _ | refine Kept.drop ?_ (by omega) | refine Kept.put ?_ (by omega) (by omega) _ | refine Kept.skip ?_) rfl ?_
    simp (maxSteps := 1000000) (disch := first | assumption | omega | rfl | decide | simp only [fitsR, Bool.and_self]) [↓rules, rules, ↓rulesDp, rulesDq, lit_u64, Int.ofNat_inj, stops, aResults, aRes, q_int, q_bool, q_cap_Cap, q_api_Errno]
  by_cases c4 : d = 0
  case neg =>
    rw [show stampC a b c d k = ((0, 0, 0, 0), 5) by unfold stampC; rw [if_neg cb, if_neg (fun h => h c3), if_pos c4]]
    simp (maxSteps := 1000000) (disch := first | assumption | omega | rfl | decide | simp only [fitsR, Bool.and_self]) [↓rules, rules, ↓rulesDp, rulesDq, lit_u64, Int.ofNat_inj, stops, q_int, q_bool, q_cap_Cap, q_api_Errno, c3, c4]
    refine done_q hdom (by repeat first | exact Kept.refl hdom | refine Kept.new ?_ _ | refine Kept.drop ?_ (by omega) | refine Kept.put ?_ (by omega) (by omega) _ | refine Kept.skip ?_) rfl ?_
    simp (maxSteps := 1000000) (disch := first | assumption | omega | rfl | decide | simp only [fitsR, Bool.and_self]) [↓rules, rules, ↓rulesDp, rulesDq, lit_u64, Int.ofNat_inj, stops, aResults, aRes, q_int, q_bool, q_cap_Cap, q_api_Errno]
  rw [show stampC a b c d k = ((a, b, c, k), 0) by unfold stampC; rw [if_neg cb, if_neg (fun h => h c3), if_neg (fun h => h c4)]]
  simp (maxSteps := 1000000) (disch := first | assumption | omega | rfl | decide | simp only [fitsR, Bool.and_self]) [↓rules, rules, ↓rulesDp, rulesDq, lit_u64, Int.ofNat_inj, stops, q_int, q_bool, q_cap_Cap, q_api_Errno, c3, c4]
  refine done_q hdom (((((Kept.refl hdom).new _).new _).put (by omega) (by omega) _).put (by omega) (by omega) _) rfl ?_
  simp (maxSteps := 1000000) (disch := first | assumption | omega | rfl | decide | simp only [fitsR, Bool.and_self]) [↓rules, rules, ↓rulesDp, rulesDq, lit_u64, Int.ofNat_inj, stops, aResults, aRes, q_int, q_bool, q_cap_Cap, q_api_Errno]
def lessC (a b c d a' b' c' d' : Int) : Bool := noneC a b c d || decide (a = a' ∧ b = b' ∧ lessR c c' = 0 ∧ (d' = 0 ∨ d' = d))
theorem lessC_iff {a b c d a' b' c' d' : Int} : lessC a b c d a' b' c' d' = true ↔ (a = 0 ∧ b = 0 ∧ c = 0 ∧ d = 0) ∨ (a = a' ∧ b = b' ∧ lessR c c' = 0 ∧ (d' = 0 ∨ d' = d)) := by
  unfold lessC; rw [Bool.or_eq_true, noneC_iff, decide_eq_true_eq]
theorem lessC_no {a b c d a' b' c' d' : Int} (h : ¬ ((a = 0 ∧ b = 0 ∧ c = 0 ∧ d = 0) ∨ (a = a' ∧ b = b' ∧ lessR c c' = 0 ∧ (d' = 0 ∨ d' = d)))) : lessC a b c d a' b' c' d' = false := by
  cases e : lessC a b c d a' b' c' d'
  · rfl
  · exact absurd (lessC_iff.1 e) h
theorem cap_Less (a b c d a' b' c' d' : Int) (g : AMem) (n : Nat) : FnC Tryd.prog f_cap_Less [c4 a b c d, c4 a' b' c' d'] g n (fun _ => False) (.bool (lessC a b c d a' b' c' d')) g n := by
  refine fnC_of_rwp t_cap_Less hm rfl fun hdom => ?_
  simp (maxSteps := 1000000) (disch := first | assumption | omega | rfl | decide | simp only [fitsR, Bool.and_self]) [↓rules, rules, ↓rulesDp, rulesDq, lit_u64, Int.ofNat_inj, stops, rc_cap_Less, q_int, q_bool, q_cap_Cap]
  refine rcall_quiet rfl (cap_None _ _ _ _ _ _) ?_
  cases cn : noneC a b c d
  case true =>
    rw [lessC_iff.2 (.inl (noneC_iff.1 cn))]
    simp (maxSteps := 1000000) (disch := first | assumption | omega | rfl | decide | simp only [fitsR, Bool.and_self]) [↓rules, rules, ↓rulesDp, rulesDq, lit_u64, Int.ofNat_inj, stops, q_int, q_bool, q_cap_Cap]
    exact done_q hdom (by repeat first | exact Kept.refl hdom | refine Kept.new ?_ _ | refine Kept.drop ?_ (by omega) | refine Kept.put ?_ (by omega) (by omega) _ | refine Kept.skip ?_) rfl rfl
  have cn' : ¬ (a = 0 ∧ b = 0 ∧ c = 0 ∧ d = 0) := fun h => by rw [noneC_iff.2 h] at cn; cases cn
  have kn := ((Kept.refl hdom).new (.row [.int .i64 a, .int .i64 b, .int .i64 c, .int .i64 d] true)).new (.row [.int .i64 a', .int .i64 b', .int .i64 c', .int .i64 d'] true)
  by_cases c1 : a = a'
  case neg =>
    rw [lessC_no (by omega)]
    simp (maxSteps := 1000000) (disch := first | assumption | omega | rfl | decide | simp only [fitsR, Bool.and_self]) [↓rules, rules, ↓rulesDp, rulesDq, lit_u64, Int.ofNat_inj, stops, q_int, q_bool, q_cap_Cap, c1]
    exact done_q hdom kn rfl rfl
  by_cases c2 : b = b'
  case neg =>
    rw [lessC_no (by omega)]
    subst c1
    simp (maxSteps := 1000000) (disch := first | assumption | omega | rfl | decide | simp only [fitsR, Bool.and_self]) [↓rules, rules, ↓rulesDp, rulesDq, lit_u64, Int.ofNat_inj, stops, q_int, q_bool, q_cap_Cap, c2]
    exact done_q hdom kn rfl rfl
  have hl := lessC_iff (a := a) (b := b) (c := c) (d := d) (a' := a') (b' := b') (c' := c') (d' := d')
  have hl2 := lessC_no (a := a) (b := b) (c := c) (d := d) (a' := a') (b' := b') (c' := c') (d' := d')
  generalize lessC a b c d a' b' c' d' = r at *
  subst c1 c2
  simp (maxSteps := 1000000) (disch := first | assumption | omega | rfl | decide | simp only [fitsR, Bool.and_self]) [↓rules, rules, ↓rulesDp, rulesDq, lit_u64, Int.ofNat_inj, stops, q_int, q_bool, q_cap_Cap]
  refine rcall_quiet rfl (right_Within _ _ _ _) ?_
  by_cases c3 : lessR c c' = 0
  case neg =>
    rw [hl2 (by rintro (h | h); exact cn' h; exact c3 h.2.2.1), decide_eq_false c3]
    simp (maxSteps := 1000000) (disch := first | assumption | omega | rfl | decide | simp only [fitsR, Bool.and_self]) [↓rules, rules, ↓rulesDp, rulesDq, lit_u64, Int.ofNat_inj, stops, q_int, q_bool, q_cap_Cap]
    exact done_q hdom kn rfl rfl
  rw [decide_eq_true c3]
  by_cases c4 : d' = 0
  · subst c4
    rw [hl.2 (.inr ⟨rfl, rfl, c3, .inl rfl⟩)]
    simp (maxSteps := 1000000) (disch := first | assumption | omega | rfl | decide | simp only [fitsR, Bool.and_self]) [↓rules, rules, ↓rulesDp, rulesDq, lit_u64, Int.ofNat_inj, stops, q_int, q_bool, q_cap_Cap]
    exact done_q hdom kn rfl rfl
  by_cases c5 : d' = d
  · rw [hl.2 (.inr ⟨rfl, rfl, c3, .inr c5⟩)]
    subst c5
    simp (maxSteps := 1000000) (disch := first | assumption | omega | rfl | decide | simp only [fitsR, Bool.and_self]) [↓rules, rules, ↓rulesDp, rulesDq, lit_u64, Int.ofNat_inj, stops, q_int, q_bool, q_cap_Cap, c4]
    exact done_q hdom kn rfl rfl
  · rw [hl2 (by rintro (h | h); exact cn' h; exact h.2.2.2.elim c4 c5)]
    simp (maxSteps := 1000000) (disch := first | assumption | omega | rfl | decide | simp only [fitsR, Bool.and_self]) [↓rules, rules, ↓rulesDp, rulesDq, lit_u64, Int.ofNat_inj, stops, q_int, q_bool, q_cap_Cap, c4, c5]
    exact done_q hdom kn rfl rfl
end Go.Proofs.YtfcbhgiccgommaaDoor.F8

namespace Go.Proofs.YtfcbhgiccgommaaDoor.F8
open Go Go.Proofs Go.Proofs.YtfcbhgiccgommaaDoorAbs
theorem decCap {H : Type} {enc : TypeId × Value → H} {W : World} : ∀ c, Cells enc Tryd.prog W [.flat (.int .i64), .flat (.int .i64), .flat (.int .i64), .flat (.int .i64)] c → ∃ (a b d e : Int), VRel (idR W) (szOf W) (c4 a b d e) (.agg c.toArray) := fun c h => by
  have hl := h.len
  simp only [List.length_cons, List.length_nil] at hl
  match c, hl, h with
  | [p, q, r, s], _, h =>
    obtain ⟨x, rfl, _⟩ := LK.i64 (h.at_ 0 (by simp) (by simp))
    obtain ⟨y, rfl, _⟩ := LK.i64 (h.at_ 1 (by simp) (by simp))
    obtain ⟨z, rfl, _⟩ := LK.i64 (h.at_ 2 (by simp) (by simp))
    obtain ⟨w, rfl, _⟩ := LK.i64 (h.at_ 3 (by simp) (by simp))
    exact ⟨x, y, z, w, pureV_rel rfl⟩
end Go.Proofs.YtfcbhgiccgommaaDoor.F8

namespace Go.Proofs.YtfcbhgiccgommaaDoor.F8
open Go Go.Proofs Go.Proofs.YtfcbhgiccgommaaDoorAbs
set_option maxHeartbeats 4000000
set_option maxRecDepth 100000
/-! ### A capability's word -/
def capF : List (Int × Int) := [(0, 8), (8, 8), (16, 16), (32, 16)]
theorem good_capF : goodF capF = true := by decide +kernel
theorem fo_capF : ∀ f ∈ capF, fOk f := by
  intro f hf
  simp only [capF, List.mem_cons, List.not_mem_nil, or_false] at hf
  rcases hf with rfl | rfl | rfl | rfl <;> unfold fOk <;> decide
theorem cap_fields (n : Nat) : FnS Tryd.prog f_cap_fields [] (fun _ => none) n (fun _ => False) fun v g' n' => rdF g' v capF ∧ Kept (fun _ => none) n g' n' :=
  fields_run (k := 10) (d := 3) (b := 0) (m := 1) (by kernel_rfl) (by kernel_rfl) (by kernel_rfl) (by kernel_rfl) n
def numC (a b c d : Int) : Int := a + c * 256 + d * 65536 + b * 4294967296
def wordC (a b c d : Int) : BitVec 64 × Bool := if goodC a b c d = true then (BitVec.ofInt 64 (numC a b c d), true) else (0#64, false)
structure RangeC (a b c d : Int) : Prop where
  a : 0 ≤ a ∧ a ≤ 5
  b : 0 ≤ b ∧ b ≤ 47
  c : 0 ≤ c ∧ c ≤ 7
  d : 0 ≤ d ∧ d ≤ 65535
theorem goodC_range {a b c d : Int} (h : goodC a b c d = true) : RangeC a b c d := by
  have h := goodC_iff.1 h
  constructor <;> omega
theorem puts_C {a b c d : Int} (h : RangeC a b c d) : putsF capF [BitVec.ofInt 64 a, BitVec.ofInt 64 c, BitVec.ofInt 64 d, BitVec.ofInt 64 b] = (BitVec.ofInt 64 (numC a b c d), true) := by
  obtain ⟨⟨a1, a2⟩, ⟨b1, b2⟩, ⟨c1, c2⟩, ⟨d1, d2⟩⟩ := h
  have ea := ofInt_nat a1 (by omega)
  have eb := ofInt_nat b1 (by omega)
  have ec := ofInt_nat c1 (by omega)
  have ed := ofInt_nat d1 (by omega)
  obtain ⟨p1, q1⟩ := put_step (w := 0#64) (x := BitVec.ofInt 64 a) (p := 0) (q := 8) (by decide) (by omega) (by decide)
  obtain ⟨p2, q2⟩ := put_step (x := BitVec.ofInt 64 c) (p := 8) (q := 8) q1 (by omega) (by decide)
  obtain ⟨p3, q3⟩ := put_step (x := BitVec.ofInt 64 d) (p := 16) (q := 16) q2 (by omega) (by decide)
  obtain ⟨p4, q4⟩ := put_step (x := BitVec.ofInt 64 b) (p := 32) (q := 16) q3 (by omega) (by decide)
  rw [putsF, if_pos ⟨good_capF, rfl⟩]
  refine (putF_ok (p := 0) (q := 8) (by omega) (by decide)).trans ?_
  refine (putF_ok (p := 8) (q := 8) (by omega) (by decide)).trans ?_
  refine (putF_ok (p := 16) (q := 16) (by omega) (by decide)).trans ?_
  refine (putF_ok (p := 32) (q := 16) (by omega) (by decide)).trans ?_
  show (_, true) = (_, true)
  congr 1
  apply BitVec.eq_of_toNat_eq
  have eN := ofInt_nat (v := numC a b c d) (by unfold numC; omega) (by unfold numC; omega)
  rw [p4, p3, p2, p1, eN]
  unfold numC
  simp only [BitVec.toNat_ofNat]
  omega
theorem cap_Word (a b c d : Int) (g : AMem) (n : Nat) : FnC Tryd.prog f_cap_Word [c4 a b c d] g n (fun _ => False) (.tuple #[U (wordC a b c d).1, .bool (wordC a b c d).2]) g n := by
  refine fnC_of_rwp t_cap_Word hm rfl fun hdom => ?_
  simp (maxSteps := 1000000) (disch := first | assumption | omega | rfl | decide | simp only [fitsR, Bool.and_self]) [↓rules, rules, ↓rulesDp, rulesDq, lit_u64, Int.ofNat_inj, stops, rc_cap_Word, q_int, q_bool, q_uint64, q_cap_Cap, q_S_uint64, q_S_tag_Field, q_tag_Field]
  refine rcall_quiet rfl (cap_Good _ _ _ _ _ _) ?_
  unfold wordC
  cases cg : goodC a b c d
  · simp (maxSteps := 1000000) (disch := first | assumption | omega | rfl | decide | simp only [fitsR, Bool.and_self]) [↓rules, rules, ↓rulesDp, rulesDq, lit_u64, Int.ofNat_inj, stops, q_int, q_bool, q_uint64, q_cap_Cap, q_S_uint64, q_S_tag_Field, q_tag_Field]
    exact done_q hdom (by repeat first | exact Kept.refl hdom | refine Kept.new ?_ _ | refine Kept.drop ?_ (by omega) | refine Kept.put ?_ (by omega) (by omega) _ | refine Kept.skip ?_) rfl rfl
  have hr := goodC_range cg
  have k1 := (Kept.refl hdom).new (.row [.int .i64 a, .int .i64 b, .int .i64 c, .int .i64 d] true)
  simp (maxSteps := 1000000) (disch := first | assumption | omega | rfl | decide | simp only [fitsR, Bool.and_self]) [↓rules, rules, ↓rulesDp, rulesDq, lit_u64, Int.ofNat_inj, stops, q_int, q_bool, q_uint64, q_cap_Cap, q_S_uint64, q_S_tag_Field, q_tag_Field]
  refine dcall_spec0 k1.dom (cap_fields _) (fun _ _ _ h => h.2) rfl fun vb hb nb g1 ⟨p1, p2⟩ k2 x2 s2 => ?_
  have hb1 := k2.same n (by omega)
  rw [gset, if_pos rfl] at hb1
  have n1 := k2.le
  have hne : n ≠ nb := by omega
  simp (maxSteps := 1000000) (disch := first | assumption | omega | rfl | decide | simp only [fitsR, Bool.and_self]) [↓rules, rules, ↓rulesDp, rulesDq, lit_u64, Int.ofNat_inj, stops, q_int, q_bool, q_uint64, q_cap_Cap, q_S_uint64, q_S_tag_Field, q_tag_Field, hb1, conv_to_u64 tu_int tu_uint64]
  refine dcall_quiet (Kept.dom (k2.new _)) rfl (Put vb _ capF [BitVec.ofInt 64 a, BitVec.ofInt 64 c, BitVec.ofInt 64 d, BitVec.ofInt 64 b] _ _ (by decide) (by simp) fo_capF ((p1.ext x2).ext (((Kept.refl k2.dom).new _).ext k2.dom)) (rd_row (if_pos rfl) rfl)) (by simp (maxSteps := 1000000) (disch := first | assumption | omega | rfl | decide | simp only [fitsR, Bool.and_self]) [↓rules, rules, ↓rulesDp, rulesDq, lit_u64, Int.ofNat_inj]) ?_
  rw [puts_C hr]
  simp (maxSteps := 1000000) (disch := first | assumption | omega | rfl | decide | simp only [fitsR, Bool.and_self]) [↓rules, rules, ↓rulesDp, rulesDq, lit_u64, Int.ofNat_inj, stops, q_int, q_bool, q_uint64, q_cap_Cap, q_S_uint64, q_S_tag_Field, q_tag_Field]
  exact done_q hdom ((k1.trans k2).new _) rfl rfl
/-! ### What a word says -/
theorem and_not_zero {x m : BitVec 64} (h : x &&& ~~~m = 0#64) : x = x &&& m := by
  apply BitVec.eq_of_getLsbD_eq
  intro i hi
  have := congrArg (fun y => y.getLsbD i) h
  simp only [BitVec.getLsbD_and, BitVec.getLsbD_not, hi, decide_true, Bool.true_and, BitVec.getLsbD_zero] at this
  rw [BitVec.getLsbD_and]
  cases h1 : x.getLsbD i <;> cases h2 : m.getLsbD i <;> simp_all
theorem all_capF : (allF capF 0#64).1 = 0xffffffffffff#64 := by decide +kernel
theorem rest_capF (w : BitVec 64) : w &&& ~~~(allF capF 0#64).1 = 0#64 ↔ w.toNat < 281474976710656 := by
  rw [all_capF]
  have e : (w &&& 0xffffffffffff#64).toNat = w.toNat % 281474976710656 := by
    rw [BitVec.toNat_and, show (0xffffffffffff#64).toNat = 2 ^ 48 - 1 from rfl, Nat.and_two_pow_sub_one_eq_mod]
  constructor
  · intro h
    have := congrArg BitVec.toNat (and_not_zero h)
    rw [e] at this; omega
  · intro h
    have e2 : w = w &&& 0xffffffffffff#64 := BitVec.eq_of_toNat_eq (by rw [e]; omega)
    rw [e2, BitVec.and_assoc]
    apply BitVec.eq_of_getLsbD_eq
    intro i hi
    simp
def getC (w : BitVec 64) : (Int × Int × Int × Int) × Bool := if w.toNat < 281474976710656 ∧ goodC (fld w 0 8) (fld w 32 16) (fld w 8 8) (fld w 16 16) = true then ((fld w 0 8, fld w 32 16, fld w 8 8, fld w 16 16), true) else ((0, 0, 0, 0), false)
theorem cap_Get (w : BitVec 64) (g : AMem) (n : Nat) : FnC Tryd.prog f_cap_Get [U w] g n (fun _ => False) (.tuple #[c4p (getC w).1, .bool (getC w).2]) g n := by
  refine fnC_of_rwp t_cap_Get hm rfl fun hdom => ?_
  have k1 := (Kept.refl hdom).new (.row [.int .i64 0, .int .i64 0, .int .i64 0, .int .i64 0] true)
  simp (maxSteps := 1000000) (disch := first | assumption | omega | rfl | decide | simp only [fitsR, Bool.and_self]) [↓rules, rules, ↓rulesDp, rulesDq, lit_u64, Int.ofNat_inj, stops, rc_cap_Get, q_int, q_bool, q_uint64, q_cap_Cap, q_S_uint64, q_S_tag_Field, q_tag_Field]
  refine rcall_spec (FnS.over0 (cap_fields _) (fun _ _ _ h => h.2) k1.dom) rfl (fun _ h => h.elim) rfl fun vf g1 n1 ⟨h', ⟨p1, p2⟩, k2, x1⟩ => ?_
  simp (maxSteps := 1000000) (disch := first | assumption | omega | rfl | decide | simp only [fitsR, Bool.and_self]) [↓rules, rules, ↓rulesDp, rulesDq, lit_u64, Int.ofNat_inj, stops, q_int, q_bool, q_uint64, q_cap_Cap, q_S_uint64, q_S_tag_Field, q_tag_Field]
  refine rcall_spec (Get w vf capF _ _ k2.dom (by decide) fo_capF (p1.ext x1)) rfl (fun _ h => h.elim) rfl fun vl g2 n2 ⟨r2, k3⟩ => ?_
  rw [getsF, if_pos good_capF] at r2
  obtain ⟨bl, ol, cl, rl, hvl, hgl, hel⟩ := rd_nths (f := U) r2 (by simp [capF])
  subst hvl
  have a0 := hel 0 (by simp [capF]); have a1 := hel 1 (by simp [capF]); have a2 := hel 2 (by simp [capF]); have a3 := hel 3 (by simp [capF])
  have w0 : IntKind.i64.wrap (uI (getF w (0, 8))) = fld w 0 8 := fld_wrap w 0 8 (by decide) (by decide)
  have w1 : IntKind.i64.wrap (uI (getF w (8, 8))) = fld w 8 8 := fld_wrap w 8 8 (by decide) (by decide)
  have w2 : IntKind.i64.wrap (uI (getF w (16, 16))) = fld w 16 16 := fld_wrap w 16 16 (by decide) (by decide)
  have w3 : IntKind.i64.wrap (uI (getF w (32, 16))) = fld w 32 16 := fld_wrap w 32 16 (by decide) (by decide)
  simp only [capF, List.map_cons, List.map_nil, List.getElem_cons_zero, List.getElem_cons_succ, Nat.add_zero] at a0 a1 a2 a3
  have l2 := k2.le
  have l3 := k3.le
  have nn : n ≤ n2 := by omega
  have kk := (k1.trans k2).trans k3
  have h2n : g2 n = some (.row [.int .i64 0, .int .i64 0, .int .i64 0, .int .i64 0] true) := by rw [k3.same n (by omega), k2.same n (by omega), gset, if_pos rfl]
  simp (maxSteps := 1000000) (disch := first | assumption | omega | rfl | decide | simp only [fitsR, Bool.and_self]) [↓rules, rules, ↓rulesDp, rulesDq, lit_u64, Int.ofNat_inj, stops, q_int, q_bool, q_uint64, q_cap_Cap, q_S_uint64, q_S_tag_Field, q_tag_Field, hgl, a0, a1, a2, a3, conv_of_u64 tu_uint64 tu_int, w0, w1, w2, w3, capF, nn]
  have k4 := kk.new (.row [.int .i64 (fld w 0 8), .int .i64 (fld w 32 16), .int .i64 (fld w 8 8), .int .i64 (fld w 16 16)] true)
  refine rcall_spec (FnS.over0 (cap_fields _) (fun _ _ _ h => h.2) k4.dom) rfl (fun _ h => h.elim) rfl fun vf2 g3 n3 ⟨h'', ⟨p3, p4⟩, k5, x5⟩ => ?_
  simp (maxSteps := 1000000) (disch := first | assumption | omega | rfl | decide | simp only [fitsR, Bool.and_self]) [↓rules, rules, ↓rulesDp, rulesDq, lit_u64, Int.ofNat_inj, stops, q_int, q_bool, q_uint64, q_cap_Cap, q_S_uint64, q_S_tag_Field, q_tag_Field]
  refine rcall_quiet rfl (Rest w vf2 capF _ _ (by decide) fo_capF (p3.ext x5)) ?_
  have l5 := k5.le
  have h3n : g3 n = some (.row [.int .i64 0, .int .i64 0, .int .i64 0, .int .i64 0] true) := by rw [k5.same n (by omega), gset, if_neg (by omega)]; exact h2n
  have h3c : g3 n2 = some (.row [.int .i64 (fld w 0 8), .int .i64 (fld w 32 16), .int .i64 (fld w 8 8), .int .i64 (fld w 16 16)] true) := by rw [k5.same n2 (by omega), gset, if_pos rfl]
  have k6 := k4.trans k5
  have hrest := rest_capF w
  unfold getC
  by_cases c1 : w &&& ~~~(allF capF 0#64).1 = 0#64
  case neg =>
    rw [if_neg (fun h => c1 (hrest.2 h.1))]
    generalize w &&& ~~~(allF capF 0#64).1 = r at *
    simp (maxSteps := 1000000) (disch := first | assumption | omega | rfl | decide | simp only [fitsR, Bool.and_self]) [↓rules, rules, ↓rulesDp, rulesDq, lit_u64, Int.ofNat_inj, stops, q_int, q_bool, q_uint64, q_cap_Cap, q_S_uint64, q_S_tag_Field, q_tag_Field, c1, h3n, h3c]
    refine done_q hdom (k6.put (by omega) (by omega) _) rfl ?_
    simp (maxSteps := 1000000) (disch := first | assumption | omega | rfl | decide | simp only [fitsR, Bool.and_self]) [↓rules, rules, ↓rulesDp, rulesDq, lit_u64, Int.ofNat_inj, stops, aResults, aRes, q_int, q_bool, q_uint64, q_cap_Cap, q_S_uint64, q_S_tag_Field, q_tag_Field]
  have hw := hrest.1 c1
  rw [c1]
  simp (maxSteps := 1000000) (disch := first | assumption | omega | rfl | decide | simp only [fitsR, Bool.and_self]) [↓rules, rules, ↓rulesDp, rulesDq, lit_u64, Int.ofNat_inj, stops, q_int, q_bool, q_uint64, q_cap_Cap, q_S_uint64, q_S_tag_Field, q_tag_Field, h3n, h3c]
  refine rcall_quiet rfl (cap_Good _ _ _ _ _ _) ?_
  cases cg : goodC (fld w 0 8) (fld w 32 16) (fld w 8 8) (fld w 16 16)
  · rw [if_neg (by simp)]
    simp (maxSteps := 1000000) (disch := first | assumption | omega | rfl | decide | simp only [fitsR, Bool.and_self]) [↓rules, rules, ↓rulesDp, rulesDq, lit_u64, Int.ofNat_inj, stops, q_int, q_bool, q_uint64, q_cap_Cap, q_S_uint64, q_S_tag_Field, q_tag_Field, h3n, h3c]
    refine done_q hdom (k6.put (by omega) (by omega) _) rfl ?_
    simp (maxSteps := 1000000) (disch := first | assumption | omega | rfl | decide | simp only [fitsR, Bool.and_self]) [↓rules, rules, ↓rulesDp, rulesDq, lit_u64, Int.ofNat_inj, stops, aResults, aRes, q_int, q_bool, q_uint64, q_cap_Cap, q_S_uint64, q_S_tag_Field, q_tag_Field]
  · rw [if_pos ⟨hw, rfl⟩]
    simp (maxSteps := 1000000) (disch := first | assumption | omega | rfl | decide | simp only [fitsR, Bool.and_self]) [↓rules, rules, ↓rulesDp, rulesDq, lit_u64, Int.ofNat_inj, stops, q_int, q_bool, q_uint64, q_cap_Cap, q_S_uint64, q_S_tag_Field, q_tag_Field, h3n, h3c]
    refine done_q hdom (k6.put (by omega) (by omega) _) rfl ?_
    simp (maxSteps := 1000000) (disch := first | assumption | omega | rfl | decide | simp only [fitsR, Bool.and_self]) [↓rules, rules, ↓rulesDp, rulesDq, lit_u64, Int.ofNat_inj, stops, aResults, aRes, q_int, q_bool, q_uint64, q_cap_Cap, q_S_uint64, q_S_tag_Field, q_tag_Field]
end Go.Proofs.YtfcbhgiccgommaaDoor.F8

namespace Go.Proofs.YtfcbhgiccgommaaDoor.F8
open Go Go.Proofs Go.Proofs.YtfcbhgiccgommaaDoorAbs
set_option maxRecDepth 100000
theorem awake8_run : xfnE Tryd.prog tab ext 200 20 f_reevelaw8_awake [] (fun _ => none) 0 = some ⟨.bool true, fun _ => none, 0, 0, true⟩ := by kernel_rfl
theorem awake8 (g : AMem) (n : Nat) : FnC Tryd.prog f_reevelaw8_awake [] g n (fun _ => False) (.bool true) g n :=
  FnC.closed (xfnE_ok hm tabOk extOk 200 20 _ _ _ _ _ (fun _ h => absurd rfl h) awake8_run).2.1 rfl rfl g n
end Go.Proofs.YtfcbhgiccgommaaDoor.F8

namespace Go.Proofs.YtfcbhgiccgommaaDoor.F8
open Go Go.Proofs Go.Proofs.YtfcbhgiccgommaaDoorAbs
set_option maxHeartbeats 8000000
set_option maxRecDepth 100000
/-! ### Rights, all of them -/
abbrev i8 (x : Fin 8) : Int := ((x.val : Nat) : Int)
theorem to8 {c : Int} (h : 0 ≤ c ∧ c ≤ 7) : ∃ x : Fin 8, c = i8 x := ⟨⟨c.toNat, by omega⟩, by simp only [i8]; omega⟩
theorem ofR_in (r : Int) : 0 ≤ ofR r ∧ ofR r ≤ 7 := by unfold ofR; split <;> omega
theorem ofR_ofR (r : Int) : ofR (ofR r) = ofR r := by
  have := ofR_in r
  rw [ofR, if_pos this]
theorem both_ofR (c r : Int) : bothR c r = bothR c (ofR r) := by unfold bothR; rw [ofR_ofR]
theorem both_in8 : ∀ x y : Fin 8, 0 ≤ bothR (i8 x) (i8 y) ∧ bothR (i8 x) (i8 y) ≤ 7 := by decide +kernel
theorem both_in {c : Int} (r : Int) (h : 0 ≤ c ∧ c ≤ 7) : 0 ≤ bothR c r ∧ bothR c r ≤ 7 := by
  obtain ⟨x, rfl⟩ := to8 h
  rw [both_ofR]
  obtain ⟨y, e⟩ := to8 (ofR_in r)
  rw [e]; exact both_in8 x y
theorem both_zero8 : ∀ y : Fin 8, bothR 0 (i8 y) = 0 := by decide +kernel
theorem both_zero (r : Int) : bothR 0 r = 0 := by
  rw [both_ofR]
  obtain ⟨y, e⟩ := to8 (ofR_in r)
  rw [e]; exact both_zero8 y
theorem both_both8 : ∀ c x y : Fin 8, bothR (bothR (i8 c) (i8 x)) (i8 y) = bothR (i8 c) (bAnd .i64 (i8 x) (i8 y)) ∧ bAndNot .i64 (bothR (i8 c) (i8 x)) (i8 x) = 0 := by decide +kernel
theorem both_all8 : ∀ c : Fin 8, bothR (i8 c) 7 = i8 c := by decide +kernel
theorem less_both8 : ∀ c x : Fin 8, lessR (bothR (i8 c) (i8 x)) (i8 c) = 0 := by decide +kernel
theorem less_both {c : Int} (r : Int) (h : 0 ≤ c ∧ c ≤ 7) : lessR (bothR c r) c = 0 := by
  obtain ⟨x, rfl⟩ := to8 h
  rw [both_ofR]
  obtain ⟨y, e⟩ := to8 (ofR_in r)
  rw [e]; exact less_both8 x y
theorem less_trans8 : ∀ a b c : Fin 8, lessR (i8 a) (i8 b) = 0 → lessR (i8 b) (i8 c) = 0 → lessR (i8 a) (i8 c) = 0 := by decide +kernel
theorem less_same8 : ∀ a b : Fin 8, lessR (i8 a) (i8 b) = 0 → lessR (i8 b) (i8 a) = 0 → i8 a = i8 b := by decide +kernel
theorem less_refl8 : ∀ a : Fin 8, lessR (i8 a) (i8 a) = 0 := by decide +kernel
/-! ### Words, back -/
theorem getC_word {a b c d : Int} (h : goodC a b c d = true) : getC (BitVec.ofInt 64 (numC a b c d)) = ((a, b, c, d), true) := by
  obtain ⟨⟨a1, a2⟩, ⟨b1, b2⟩, ⟨c1, c2⟩, ⟨d1, d2⟩⟩ := goodC_range h
  have eN := ofInt_nat (v := numC a b c d) (by unfold numC; omega) (by unfold numC; omega)
  have e0 : fld (BitVec.ofInt 64 (numC a b c d)) 0 8 = a := by unfold fld; rw [eN]; unfold numC; omega
  have e1 : fld (BitVec.ofInt 64 (numC a b c d)) 32 16 = b := by unfold fld; rw [eN]; unfold numC; omega
  have e2 : fld (BitVec.ofInt 64 (numC a b c d)) 8 8 = c := by unfold fld; rw [eN]; unfold numC; omega
  have e3 : fld (BitVec.ofInt 64 (numC a b c d)) 16 16 = d := by unfold fld; rw [eN]; unfold numC; omega
  unfold getC
  rw [e0, e1, e2, e3, if_pos ⟨by rw [eN]; unfold numC; omega, h⟩]
theorem word_getC {w : BitVec 64} (h : (getC w).2 = true) : wordC (getC w).1.1 (getC w).1.2.1 (getC w).1.2.2.1 (getC w).1.2.2.2 = (w, true) := by
  unfold getC at h ⊢
  split at h
  · rename_i hc
    rw [if_pos hc]
    simp only
    unfold wordC
    rw [if_pos hc.2]
    congr 1
    apply BitVec.eq_of_toNat_eq
    have hw := hc.1
    unfold numC fld
    rw [BitVec.toNat_ofInt]
    omega
  · cases h
theorem getC_none {w : BitVec 64} (h : (getC w).2 = false) : getC w = ((0, 0, 0, 0), false) := by
  unfold getC at h ⊢
  split at h
  · cases h
  · rename_i hc; rw [if_neg hc]
theorem beqb (x : Bool) : (x == x) = true := by cases x <;> rfl
theorem CapBack (a b c d : Int) (w : BitVec 64) (g : AMem) (n : Nat) (hdom : ∀ i, g i ≠ none → i < n) : FnC Tryd.prog f_reevelaw8_CapBack [c4 a b c d, U w] g n (fun _ => False) (.bool true) g n := by
  refine fnC_of_rwp t_reevelaw8_CapBack hm rfl fun hdom => ?_
  simp (maxSteps := 1000000) (disch := first | assumption | omega | rfl | decide | simp only [fitsR, Bool.and_self]) [↓rules, rules, ↓rulesDp, rulesDq, lit_u64, Int.ofNat_inj, stops, rc_reevelaw8_CapBack, q_int, q_bool, q_uint64, q_cap_Cap]
  refine rcall_quiet rfl (awake8 _ _) ?_
  simp (maxSteps := 1000000) (disch := first | assumption | omega | rfl | decide | simp only [fitsR, Bool.and_self]) [↓rules, rules, ↓rulesDp, rulesDq, lit_u64, Int.ofNat_inj, stops, q_int, q_bool, q_uint64, q_cap_Cap]
  refine rcall_quiet rfl (cap_Word _ _ _ _ _ _) ?_
  simp (maxSteps := 1000000) (disch := first | assumption | omega | rfl | decide | simp only [fitsR, Bool.and_self]) [↓rules, rules, ↓rulesDp, rulesDq, lit_u64, Int.ofNat_inj, stops, q_int, q_bool, q_uint64, q_cap_Cap]
  refine rcall_quiet rfl (cap_Get _ _ _) ?_
  have nn1 : n ≤ n + 1 := by omega
  have nn2 : n ≤ n + 1 + 1 := by omega
  have k2 := fun (r1 r2 r3 : List Value) => (((Kept.refl hdom).new (.row r1 true)).new (.row r2 true)).new (.row r3 true)
  have hg2 := word_getC (w := w)
  have hn2 := getC_none (w := w)
  cases cg : goodC a b c d
  · have hw : wordC a b c d = (0#64, false) := by unfold wordC; rw [cg]; rfl
    rw [hw]
    generalize getC (0#64, false).1 = z
    obtain ⟨⟨z1, z2', z3, z4⟩, z5⟩ := z
    simp (maxSteps := 1000000) (disch := first | assumption | omega | rfl | decide | simp only [fitsR, Bool.and_self]) [↓rules, rules, ↓rulesDp, rulesDq, lit_u64, Int.ofNat_inj, stops, q_int, q_bool, q_uint64, q_cap_Cap, nn1, nn2]
    refine rcall_quiet rfl (cap_Good _ _ _ _ _ _) ?_
    rw [cg]
    simp (maxSteps := 1000000) (disch := first | assumption | omega | rfl | decide | simp only [fitsR, Bool.and_self]) [↓rules, rules, ↓rulesDp, rulesDq, lit_u64, Int.ofNat_inj, stops, q_int, q_bool, q_uint64, q_cap_Cap, nn1, nn2, bin_neq_bool tu_bool]
    refine rcall_quiet rfl (cap_Get _ _ _) ?_
    generalize getC w = z2 at hg2 hn2
    obtain ⟨⟨u1, u2, u3, u4⟩, u5⟩ := z2
    simp (maxSteps := 1000000) (disch := first | assumption | omega | rfl | decide | simp only [fitsR, Bool.and_self]) [↓rules, rules, ↓rulesDp, rulesDq, lit_u64, Int.ofNat_inj, stops, q_int, q_bool, q_uint64, q_cap_Cap, nn1, nn2]
    refine rcall_quiet rfl (cap_Word _ _ _ _ _ _) ?_
    cases u5
    · have e := hn2 rfl
      simp only [Prod.mk.injEq, and_true] at e
      obtain ⟨rfl, rfl, rfl, rfl⟩ := e
      simp (maxSteps := 1000000) (disch := first | assumption | omega | rfl | decide | simp only [fitsR, Bool.and_self]) [↓rules, rules, ↓rulesDp, rulesDq, lit_u64, Int.ofNat_inj, stops, q_int, q_bool, q_uint64, q_cap_Cap, nn1, nn2, beq_cap_Cap]
      exact done_q hdom (k2 _ _ _) rfl rfl
    · have e := hg2 rfl
      simp only at e
      rw [e]
      simp (maxSteps := 1000000) (disch := first | assumption | omega | rfl | decide | simp only [fitsR, Bool.and_self]) [↓rules, rules, ↓rulesDp, rulesDq, lit_u64, Int.ofNat_inj, stops, q_int, q_bool, q_uint64, q_cap_Cap, nn1, nn2]
      exact done_q hdom (k2 _ _ _) rfl rfl
  · have hw : wordC a b c d = (BitVec.ofInt 64 (numC a b c d), true) := by unfold wordC; rw [cg]; rfl
    rw [hw, show getC (BitVec.ofInt 64 (numC a b c d), true).1 = ((a, b, c, d), true) from getC_word cg]
    simp (maxSteps := 1000000) (disch := first | assumption | omega | rfl | decide | simp only [fitsR, Bool.and_self]) [↓rules, rules, ↓rulesDp, rulesDq, lit_u64, Int.ofNat_inj, stops, q_int, q_bool, q_uint64, q_cap_Cap, nn1, nn2]
    refine rcall_quiet rfl (cap_Good _ _ _ _ _ _) ?_
    rw [cg]
    simp (maxSteps := 1000000) (disch := first | assumption | omega | rfl | decide | simp only [fitsR, Bool.and_self]) [↓rules, rules, ↓rulesDp, rulesDq, lit_u64, Int.ofNat_inj, stops, q_int, q_bool, q_uint64, q_cap_Cap, nn1, nn2, bin_neq_bool tu_bool, bne_cap_Cap]
    refine rcall_quiet rfl (cap_Get _ _ _) ?_
    generalize getC w = z2 at hg2 hn2
    obtain ⟨⟨u1, u2, u3, u4⟩, u5⟩ := z2
    simp (maxSteps := 1000000) (disch := first | assumption | omega | rfl | decide | simp only [fitsR, Bool.and_self]) [↓rules, rules, ↓rulesDp, rulesDq, lit_u64, Int.ofNat_inj, stops, q_int, q_bool, q_uint64, q_cap_Cap, nn1, nn2]
    refine rcall_quiet rfl (cap_Word _ _ _ _ _ _) ?_
    cases u5
    · have e := hn2 rfl
      simp only [Prod.mk.injEq, and_true] at e
      obtain ⟨rfl, rfl, rfl, rfl⟩ := e
      simp (maxSteps := 1000000) (disch := first | assumption | omega | rfl | decide | simp only [fitsR, Bool.and_self]) [↓rules, rules, ↓rulesDp, rulesDq, lit_u64, Int.ofNat_inj, stops, q_int, q_bool, q_uint64, q_cap_Cap, nn1, nn2, beq_cap_Cap]
      exact done_q hdom (k2 _ _ _) rfl rfl
    · have e := hg2 rfl
      simp only at e
      rw [e]
      simp (maxSteps := 1000000) (disch := first | assumption | omega | rfl | decide | simp only [fitsR, Bool.and_self]) [↓rules, rules, ↓rulesDp, rulesDq, lit_u64, Int.ofNat_inj, stops, q_int, q_bool, q_uint64, q_cap_Cap, nn1, nn2]
      exact done_q hdom (k2 _ _ _) rfl rfl
end Go.Proofs.YtfcbhgiccgommaaDoor.F8

namespace Go.Proofs.YtfcbhgiccgommaaDoor.F8
open Go Go.Proofs Go.Proofs.YtfcbhgiccgommaaDoorAbs
set_option maxHeartbeats 8000000
set_option maxRecDepth 100000
theorem goodC_r {a b c d : Int} (h : goodC a b c d = true) : 0 ≤ c ∧ c ≤ 7 := (goodC_range h).c
theorem good_cut {a b c d : Int} (r : Int) (h : goodC a b c d = true) : goodC a b (bothR c r) d = true := by
  have hr := goodC_r h
  have h' := goodC_iff.1 h
  rw [goodC_iff]
  rcases h' with ⟨h1, h2, h3, h4⟩ | h'
  · left; rw [h3, both_zero]; exact ⟨h1, h2, rfl, h4⟩
  · right
    have := both_in r hr
    omega
theorem cut_eq {a b c d : Int} (r : Int) (h : goodC a b c d = true) : cutC a b c d r = (a, b, bothR c r, d) := if_pos h
theorem CapCuts (a b c d : Int) (x y : Int) (g : AMem) (n : Nat) (hdom : ∀ i, g i ≠ none → i < n) (_ : -9223372036854775808 ≤ x) (_ : x ≤ 9223372036854775807) (_ : -9223372036854775808 ≤ y) (_ : y ≤ 9223372036854775807) :
    FnC Tryd.prog f_reevelaw8_CapCuts [c4 a b c d, .int .i64 x, .int .i64 y] g n (fun _ => False) (.bool true) g n := by
  refine fnC_of_rwp t_reevelaw8_CapCuts hm rfl fun hdom => ?_
  simp (maxSteps := 1000000) (disch := first | assumption | omega | rfl | decide | simp only [fitsR, Bool.and_self]) [↓rules, rules, ↓rulesDp, rulesDq, lit_u64, Int.ofNat_inj, stops, rc_reevelaw8_CapCuts, q_int, q_bool, q_cap_Cap]
  refine rcall_quiet rfl (awake8 _ _) ?_
  simp (maxSteps := 1000000) (disch := first | assumption | omega | rfl | decide | simp only [fitsR, Bool.and_self]) [↓rules, rules, ↓rulesDp, rulesDq, lit_u64, Int.ofNat_inj, stops, q_int, q_bool, q_cap_Cap]
  refine rcall_quiet rfl (cap_Good _ _ _ _ _ _) ?_
  cases cg : goodC a b c d
  · simp (maxSteps := 1000000) (disch := first | assumption | omega | rfl | decide | simp only [fitsR, Bool.and_self]) [↓rules, rules, ↓rulesDp, rulesDq, lit_u64, Int.ofNat_inj, stops, q_int, q_bool, q_cap_Cap]
    exact done_q hdom (by repeat first | exact Kept.refl hdom | refine Kept.new ?_ _ | refine Kept.drop ?_ (by omega) | refine Kept.put ?_ (by omega) (by omega) _ | refine Kept.skip ?_) rfl rfl
  by_cases c1 : x < 0
  · simp (maxSteps := 1000000) (disch := first | assumption | omega | rfl | decide | simp only [fitsR, Bool.and_self]) [↓rules, rules, ↓rulesDp, rulesDq, lit_u64, Int.ofNat_inj, stops, q_int, q_bool, q_cap_Cap, c1]
    exact done_q hdom (by repeat first | exact Kept.refl hdom | refine Kept.new ?_ _ | refine Kept.drop ?_ (by omega) | refine Kept.put ?_ (by omega) (by omega) _ | refine Kept.skip ?_) rfl rfl
  by_cases c2 : 7 < x
  · simp (maxSteps := 1000000) (disch := first | assumption | omega | rfl | decide | simp only [fitsR, Bool.and_self]) [↓rules, rules, ↓rulesDp, rulesDq, lit_u64, Int.ofNat_inj, stops, q_int, q_bool, q_cap_Cap, c1, c2]
    exact done_q hdom (by repeat first | exact Kept.refl hdom | refine Kept.new ?_ _ | refine Kept.drop ?_ (by omega) | refine Kept.put ?_ (by omega) (by omega) _ | refine Kept.skip ?_) rfl rfl
  by_cases c3 : y < 0
  · simp (maxSteps := 1000000) (disch := first | assumption | omega | rfl | decide | simp only [fitsR, Bool.and_self]) [↓rules, rules, ↓rulesDp, rulesDq, lit_u64, Int.ofNat_inj, stops, q_int, q_bool, q_cap_Cap, c1, c2, c3]
    exact done_q hdom (by repeat first | exact Kept.refl hdom | refine Kept.new ?_ _ | refine Kept.drop ?_ (by omega) | refine Kept.put ?_ (by omega) (by omega) _ | refine Kept.skip ?_) rfl rfl
  by_cases c4 : 7 < y
  · simp (maxSteps := 1000000) (disch := first | assumption | omega | rfl | decide | simp only [fitsR, Bool.and_self]) [↓rules, rules, ↓rulesDp, rulesDq, lit_u64, Int.ofNat_inj, stops, q_int, q_bool, q_cap_Cap, c1, c2, c3, c4]
    exact done_q hdom (by repeat first | exact Kept.refl hdom | refine Kept.new ?_ _ | refine Kept.drop ?_ (by omega) | refine Kept.put ?_ (by omega) (by omega) _ | refine Kept.skip ?_) rfl rfl
  obtain ⟨c', hc'⟩ := to8 (goodC_r cg)
  obtain ⟨x', hx'⟩ := to8 (c := x) (by omega)
  obtain ⟨y', hy'⟩ := to8 (c := y) (by omega)
  have e1 : bothR (bothR c x) y = bothR c (bAnd .i64 x y) := by rw [hc', hx', hy']; exact (both_both8 _ _ _).1
  have e2 : bAndNot .i64 (bothR c x) x = 0 := by rw [hc', hx']; exact (both_both8 c' x' x').2
  have e3 : bothR c 7 = c := by rw [hc']; exact both_all8 _
  simp (maxSteps := 1000000) (disch := first | assumption | omega | rfl | decide | simp only [fitsR, Bool.and_self]) [↓rules, rules, ↓rulesDp, rulesDq, lit_u64, Int.ofNat_inj, stops, q_int, q_bool, q_cap_Cap, c1, c2, c3, c4]
  refine rcall_quiet rfl (cap_Cut _ _ _ _ _ _ _) ?_
  rw [cut_eq _ cg]
  simp (maxSteps := 1000000) (disch := first | assumption | omega | rfl | decide | simp only [fitsR, Bool.and_self]) [↓rules, rules, ↓rulesDp, rulesDq, lit_u64, Int.ofNat_inj, stops, q_int, q_bool, q_cap_Cap]
  refine rcall_quiet rfl (cap_Cut _ _ _ _ _ _ _) ?_
  rw [cut_eq _ (good_cut _ cg)]
  simp (maxSteps := 1000000) (disch := first | assumption | omega | rfl | decide | simp only [fitsR, Bool.and_self]) [↓rules, rules, ↓rulesDp, rulesDq, lit_u64, Int.ofNat_inj, stops, q_int, q_bool, q_cap_Cap]
  refine rcall_quiet rfl (cap_Cut _ _ _ _ _ _ _) ?_
  rw [cut_eq _ cg]
  simp (maxSteps := 1000000) (disch := first | assumption | omega | rfl | decide | simp only [fitsR, Bool.and_self]) [↓rules, rules, ↓rulesDp, rulesDq, lit_u64, Int.ofNat_inj, stops, q_int, q_bool, q_cap_Cap, e1, beq_cap_Cap]
  refine rcall_quiet rfl (cap_Cut _ _ _ _ _ _ _) ?_
  rw [cut_eq _ cg, e3]
  simp (maxSteps := 1000000) (disch := first | assumption | omega | rfl | decide | simp only [fitsR, Bool.and_self]) [↓rules, rules, ↓rulesDp, rulesDq, lit_u64, Int.ofNat_inj, stops, q_int, q_bool, q_cap_Cap, beq_cap_Cap]
  refine rcall_quiet rfl (cap_Cut _ _ _ _ _ _ _) ?_
  rw [cut_eq _ cg]
  simp (maxSteps := 1000000) (disch := first | assumption | omega | rfl | decide | simp only [fitsR, Bool.and_self]) [↓rules, rules, ↓rulesDp, rulesDq, lit_u64, Int.ofNat_inj, stops, q_int, q_bool, q_cap_Cap]
  refine rcall_quiet rfl (cap_Good _ _ _ _ _ _) ?_
  rw [good_cut _ cg]
  simp (maxSteps := 1000000) (disch := first | assumption | omega | rfl | decide | simp only [fitsR, Bool.and_self]) [↓rules, rules, ↓rulesDp, rulesDq, lit_u64, Int.ofNat_inj, stops, q_int, q_bool, q_cap_Cap]
  refine rcall_quiet rfl (cap_Cut _ _ _ _ _ _ _) ?_
  rw [cut_eq _ cg]
  simp (maxSteps := 1000000) (disch := first | assumption | omega | rfl | decide | simp only [fitsR, Bool.and_self]) [↓rules, rules, ↓rulesDp, rulesDq, lit_u64, Int.ofNat_inj, stops, q_int, q_bool, q_cap_Cap, e2]
  exact done_q hdom (by repeat first | exact Kept.refl hdom | refine Kept.new ?_ _ | refine Kept.drop ?_ (by omega) | refine Kept.put ?_ (by omega) (by omega) _ | refine Kept.skip ?_) rfl rfl
/-! ### Less -/
theorem less_cut {a b c d : Int} (r : Int) (h : goodC a b c d = true) : lessC a b (bothR c r) d a b c d = true := lessC_iff.2 (.inr ⟨rfl, rfl, less_both r (goodC_r h), .inr rfl⟩)
theorem less_self {a b c d : Int} (h : goodC a b c d = true) : lessC a b c d a b c d = true := by
  obtain ⟨x, rfl⟩ := to8 (goodC_r h)
  exact lessC_iff.2 (.inr ⟨rfl, rfl, less_refl8 x, .inr rfl⟩)
theorem less_trans {a b c d a' b' c' d' a'' b'' c'' d'' : Int} (h : goodC a b c d = true) (h' : goodC a' b' c' d' = true) (h'' : goodC a'' b'' c'' d'' = true)
    (h1 : lessC a b c d a' b' c' d' = true) (h2 : lessC a' b' c' d' a'' b'' c'' d'' = true) : lessC a b c d a'' b'' c'' d'' = true := by
  obtain ⟨x, rfl⟩ := to8 (goodC_r h)
  obtain ⟨y, rfl⟩ := to8 (goodC_r h')
  obtain ⟨z, rfl⟩ := to8 (goodC_r h'')
  rw [lessC_iff] at h1 h2 ⊢
  rcases h1 with h1 | ⟨e1, e2, e3, e4⟩
  · exact .inl h1
  · rcases h2 with ⟨f1, f2, f3, f4⟩ | ⟨f1, f2, f3, f4⟩
    · have h := goodC_iff.1 h
      left; omega
    · exact .inr ⟨e1.trans f1, e2.trans f2, less_trans8 _ _ _ e3 f3, by omega⟩
theorem less_anti {a b c d a' b' c' d' : Int} (h : goodC a b c d = true) (h' : goodC a' b' c' d' = true) (h1 : lessC a b c d a' b' c' d' = true) (h2 : lessC a' b' c' d' a b c d = true) : a = a' ∧ b = b' ∧ c = c' ∧ d = d' := by
  have k := goodC_iff.1 h
  have k' := goodC_iff.1 h'
  obtain ⟨x, rfl⟩ := to8 (goodC_r h)
  obtain ⟨y, rfl⟩ := to8 (goodC_r h')
  rw [lessC_iff] at h1 h2
  rcases h1 with h1 | ⟨e1, e2, e3, e4⟩
  · rcases h2 with h2 | ⟨f1, f2, f3, f4⟩
    · omega
    · omega
  · rcases h2 with h2 | ⟨f1, f2, f3, f4⟩
    · omega
    · exact ⟨e1, e2, less_same8 _ _ e3 f3, by omega⟩
theorem stamp_dec (a b c d k : Int) : (stampC a b c d k).2 = 0 ∧ stampC a b c d k = ((a, b, c, k), 0) ∧ d = 0 ∧ k ≠ 0 ∧ (a = 3 ∨ a = 4) ∨ (stampC a b c d k).2 ≠ 0 := by
  unfold stampC
  split
  · right; simp
  · rename_i h
    split
    · right; simp
    · rename_i h2
      split
      · right; simp
      · rename_i h3
        left
        refine ⟨rfl, rfl, by omega, fun e => h (.inr (.inr e)), by omega⟩
theorem CapLess (a b c d : Int) (a' b' c' d' : Int) (a'' b'' c'' d'' : Int) (r k : Int) (g : AMem) (n : Nat) (hdom : ∀ i, g i ≠ none → i < n) (_ : -9223372036854775808 ≤ r) (_ : r ≤ 9223372036854775807) (_ : -9223372036854775808 ≤ k) (_ : k ≤ 9223372036854775807) :
    FnC Tryd.prog f_reevelaw8_CapLess [c4 a b c d, c4 a' b' c' d', c4 a'' b'' c'' d'', .int .i64 r, .int .i64 k] g n (fun _ => False) (.bool true) g n := by
  refine fnC_of_rwp t_reevelaw8_CapLess hm rfl fun hdom => ?_
  simp (maxSteps := 1000000) (disch := first | assumption | omega | rfl | decide | simp only [fitsR, Bool.and_self]) [↓rules, rules, ↓rulesDp, rulesDq, lit_u64, Int.ofNat_inj, stops, rc_reevelaw8_CapLess, q_int, q_bool, q_cap_Cap, q_api_Errno]
  refine rcall_quiet rfl (awake8 _ _) ?_
  have k3 := ((((Kept.refl hdom).new (.row [.int .i64 a, .int .i64 b, .int .i64 c, .int .i64 d] true)).new (.row [.int .i64 a', .int .i64 b', .int .i64 c', .int .i64 d'] true)).new (.row [.int .i64 a'', .int .i64 b'', .int .i64 c'', .int .i64 d''] true))
  simp (maxSteps := 1000000) (disch := first | assumption | omega | rfl | decide | simp only [fitsR, Bool.and_self]) [↓rules, rules, ↓rulesDp, rulesDq, lit_u64, Int.ofNat_inj, stops, q_int, q_bool, q_cap_Cap, q_api_Errno]
  refine rcall_quiet rfl (cap_Good _ _ _ _ _ _) ?_
  cases cg : goodC a b c d
  · simp (maxSteps := 1000000) (disch := first | assumption | omega | rfl | decide | simp only [fitsR, Bool.and_self]) [↓rules, rules, ↓rulesDp, rulesDq, lit_u64, Int.ofNat_inj, stops, q_int, q_bool, q_cap_Cap, q_api_Errno]
    exact done_q hdom k3 rfl rfl
  simp (maxSteps := 1000000) (disch := first | assumption | omega | rfl | decide | simp only [fitsR, Bool.and_self]) [↓rules, rules, ↓rulesDp, rulesDq, lit_u64, Int.ofNat_inj, stops, q_int, q_bool, q_cap_Cap, q_api_Errno]
  refine rcall_quiet rfl (cap_Good _ _ _ _ _ _) ?_
  cases cg' : goodC a' b' c' d'
  · simp (maxSteps := 1000000) (disch := first | assumption | omega | rfl | decide | simp only [fitsR, Bool.and_self]) [↓rules, rules, ↓rulesDp, rulesDq, lit_u64, Int.ofNat_inj, stops, q_int, q_bool, q_cap_Cap, q_api_Errno]
    exact done_q hdom k3 rfl rfl
  simp (maxSteps := 1000000) (disch := first | assumption | omega | rfl | decide | simp only [fitsR, Bool.and_self]) [↓rules, rules, ↓rulesDp, rulesDq, lit_u64, Int.ofNat_inj, stops, q_int, q_bool, q_cap_Cap, q_api_Errno]
  refine rcall_quiet rfl (cap_Good _ _ _ _ _ _) ?_
  cases cg'' : goodC a'' b'' c'' d''
  · simp (maxSteps := 1000000) (disch := first | assumption | omega | rfl | decide | simp only [fitsR, Bool.and_self]) [↓rules, rules, ↓rulesDp, rulesDq, lit_u64, Int.ofNat_inj, stops, q_int, q_bool, q_cap_Cap, q_api_Errno]
    exact done_q hdom k3 rfl rfl
  simp (maxSteps := 1000000) (disch := first | assumption | omega | rfl | decide | simp only [fitsR, Bool.and_self]) [↓rules, rules, ↓rulesDp, rulesDq, lit_u64, Int.ofNat_inj, stops, q_int, q_bool, q_cap_Cap, q_api_Errno]
  refine rcall_quiet rfl (cap_Stamp _ _ _ _ _ _ _) ?_
  have nn1 : n ≤ n + 1 + 1 + 1 := by omega
  have k4 := fun r => k3.new (.row r true)
  have fin : ∀ (Q : Prop), Q → Q := fun _ h => h
  rcases stamp_dec a b c d k with ⟨_, es, ed, ek, ea⟩ | es
  · rw [es]
    subst ed
    have l1 : lessC a b c k a b c 0 = true := by
      obtain ⟨x, rfl⟩ := to8 (goodC_r cg)
      exact lessC_iff.2 (.inr ⟨rfl, rfl, less_refl8 x, .inl rfl⟩)
    have l2 : lessC a b c 0 a b c k = false := lessC_no (by omega)
    simp (maxSteps := 1000000) (disch := first | assumption | omega | rfl | decide | simp only [fitsR, Bool.and_self]) [↓rules, rules, ↓rulesDp, rulesDq, lit_u64, Int.ofNat_inj, stops, q_int, q_bool, q_cap_Cap, q_api_Errno, nn1]
    refine rcall_quiet rfl (cap_Cut _ _ _ _ _ _ _) ?_
    rw [cut_eq _ cg]
    simp (maxSteps := 1000000) (disch := first | assumption | omega | rfl | decide | simp only [fitsR, Bool.and_self]) [↓rules, rules, ↓rulesDp, rulesDq, lit_u64, Int.ofNat_inj, stops, q_int, q_bool, q_cap_Cap, q_api_Errno]
    refine rcall_quiet rfl (cap_Less _ _ _ _ _ _ _ _ _ _) ?_
    rw [less_cut _ cg]
    simp (maxSteps := 1000000) (disch := first | assumption | omega | rfl | decide | simp only [fitsR, Bool.and_self]) [↓rules, rules, ↓rulesDp, rulesDq, lit_u64, Int.ofNat_inj, stops, q_int, q_bool, q_cap_Cap, q_api_Errno]
    refine rcall_quiet rfl (cap_Less _ _ _ _ _ _ _ _ _ _) ?_
    rw [l1]
    simp (maxSteps := 1000000) (disch := first | assumption | omega | rfl | decide | simp only [fitsR, Bool.and_self]) [↓rules, rules, ↓rulesDp, rulesDq, lit_u64, Int.ofNat_inj, stops, q_int, q_bool, q_cap_Cap, q_api_Errno]
    refine rcall_quiet rfl (cap_Less _ _ _ _ _ _ _ _ _ _) ?_
    rw [l2]
    simp (maxSteps := 1000000) (disch := first | assumption | omega | rfl | decide | simp only [fitsR, Bool.and_self]) [↓rules, rules, ↓rulesDp, rulesDq, lit_u64, Int.ofNat_inj, stops, q_int, q_bool, q_cap_Cap, q_api_Errno]
    refine rcall_quiet rfl (cap_Less _ _ _ _ _ _ _ _ _ _) ?_
    rw [less_self cg]
    simp (maxSteps := 1000000) (disch := first | assumption | omega | rfl | decide | simp only [fitsR, Bool.and_self]) [↓rules, rules, ↓rulesDp, rulesDq, lit_u64, Int.ofNat_inj, stops, q_int, q_bool, q_cap_Cap, q_api_Errno]
    refine rcall_quiet rfl (cap_Less _ _ _ _ _ _ _ _ _ _) ?_
    cases p : lessC a b c 0 a' b' c' d'
    · simp (maxSteps := 1000000) (disch := first | assumption | omega | rfl | decide | simp only [fitsR, Bool.and_self]) [↓rules, rules, ↓rulesDp, rulesDq, lit_u64, Int.ofNat_inj, stops, q_int, q_bool, q_cap_Cap, q_api_Errno]
      refine rcall_quiet rfl (cap_Less _ _ _ _ _ _ _ _ _ _) ?_
      rw [p]
      simp (maxSteps := 1000000) (disch := first | assumption | omega | rfl | decide | simp only [fitsR, Bool.and_self]) [↓rules, rules, ↓rulesDp, rulesDq, lit_u64, Int.ofNat_inj, stops, q_int, q_bool, q_cap_Cap, q_api_Errno]
      exact done_q hdom (k4 _) rfl rfl
    simp (maxSteps := 1000000) (disch := first | assumption | omega | rfl | decide | simp only [fitsR, Bool.and_self]) [↓rules, rules, ↓rulesDp, rulesDq, lit_u64, Int.ofNat_inj, stops, q_int, q_bool, q_cap_Cap, q_api_Errno]
    refine rcall_quiet rfl (cap_Less _ _ _ _ _ _ _ _ _ _) ?_
    cases q : lessC a' b' c' d' a'' b'' c'' d''
    · simp (maxSteps := 1000000) (disch := first | assumption | omega | rfl | decide | simp only [fitsR, Bool.and_self]) [↓rules, rules, ↓rulesDp, rulesDq, lit_u64, Int.ofNat_inj, stops, q_int, q_bool, q_cap_Cap, q_api_Errno]
      refine rcall_quiet rfl (cap_Less _ _ _ _ _ _ _ _ _ _) ?_
      rw [p]
      simp (maxSteps := 1000000) (disch := first | assumption | omega | rfl | decide | simp only [fitsR, Bool.and_self]) [↓rules, rules, ↓rulesDp, rulesDq, lit_u64, Int.ofNat_inj, stops, q_int, q_bool, q_cap_Cap, q_api_Errno]
      refine rcall_quiet rfl (cap_Less _ _ _ _ _ _ _ _ _ _) ?_
      cases s : lessC a' b' c' d' a b c 0
      · simp (maxSteps := 1000000) (disch := first | assumption | omega | rfl | decide | simp only [fitsR, Bool.and_self]) [↓rules, rules, ↓rulesDp, rulesDq, lit_u64, Int.ofNat_inj, stops, q_int, q_bool, q_cap_Cap, q_api_Errno]
        exact done_q hdom (k4 _) rfl rfl
      · obtain ⟨e1, e2, e3, e4⟩ := less_anti cg cg' p s
        subst e1 e2 e3 e4
        simp (maxSteps := 1000000) (disch := first | assumption | omega | rfl | decide | simp only [fitsR, Bool.and_self]) [↓rules, rules, ↓rulesDp, rulesDq, lit_u64, Int.ofNat_inj, stops, q_int, q_bool, q_cap_Cap, q_api_Errno, beq_cap_Cap]
        exact done_q hdom (k4 _) rfl rfl
    simp (maxSteps := 1000000) (disch := first | assumption | omega | rfl | decide | simp only [fitsR, Bool.and_self]) [↓rules, rules, ↓rulesDp, rulesDq, lit_u64, Int.ofNat_inj, stops, q_int, q_bool, q_cap_Cap, q_api_Errno]
    refine rcall_quiet rfl (cap_Less _ _ _ _ _ _ _ _ _ _) ?_
    rw [less_trans cg cg' cg'' p q]
    simp (maxSteps := 1000000) (disch := first | assumption | omega | rfl | decide | simp only [fitsR, Bool.and_self]) [↓rules, rules, ↓rulesDp, rulesDq, lit_u64, Int.ofNat_inj, stops, q_int, q_bool, q_cap_Cap, q_api_Errno]
    refine rcall_quiet rfl (cap_Less _ _ _ _ _ _ _ _ _ _) ?_
    rw [p]
    simp (maxSteps := 1000000) (disch := first | assumption | omega | rfl | decide | simp only [fitsR, Bool.and_self]) [↓rules, rules, ↓rulesDp, rulesDq, lit_u64, Int.ofNat_inj, stops, q_int, q_bool, q_cap_Cap, q_api_Errno]
    refine rcall_quiet rfl (cap_Less _ _ _ _ _ _ _ _ _ _) ?_
    cases s : lessC a' b' c' d' a b c 0
    · simp (maxSteps := 1000000) (disch := first | assumption | omega | rfl | decide | simp only [fitsR, Bool.and_self]) [↓rules, rules, ↓rulesDp, rulesDq, lit_u64, Int.ofNat_inj, stops, q_int, q_bool, q_cap_Cap, q_api_Errno]
      exact done_q hdom (k4 _) rfl rfl
    · obtain ⟨e1, e2, e3, e4⟩ := less_anti cg cg' p s
      subst e1 e2 e3 e4
      simp (maxSteps := 1000000) (disch := first | assumption | omega | rfl | decide | simp only [fitsR, Bool.and_self]) [↓rules, rules, ↓rulesDp, rulesDq, lit_u64, Int.ofNat_inj, stops, q_int, q_bool, q_cap_Cap, q_api_Errno, beq_cap_Cap]
      exact done_q hdom (k4 _) rfl rfl
  · obtain ⟨⟨⟨s1, s2, s3, s4⟩, e⟩, hz⟩ : ∃ z, stampC a b c d k = z := ⟨_, rfl⟩
    rw [hz] at es ⊢
    have es : ¬ e = 0 := es
    simp (maxSteps := 1000000) (disch := first | assumption | omega | rfl | decide | simp only [fitsR, Bool.and_self]) [↓rules, rules, ↓rulesDp, rulesDq, lit_u64, Int.ofNat_inj, stops, q_int, q_bool, q_cap_Cap, q_api_Errno, nn1]
    refine rcall_quiet rfl (cap_Cut _ _ _ _ _ _ _) ?_
    rw [cut_eq _ cg]
    simp (maxSteps := 1000000) (disch := first | assumption | omega | rfl | decide | simp only [fitsR, Bool.and_self]) [↓rules, rules, ↓rulesDp, rulesDq, lit_u64, Int.ofNat_inj, stops, q_int, q_bool, q_cap_Cap, q_api_Errno]
    refine rcall_quiet rfl (cap_Less _ _ _ _ _ _ _ _ _ _) ?_
    rw [less_cut _ cg]
    simp (maxSteps := 1000000) (disch := first | assumption | omega | rfl | decide | simp only [fitsR, Bool.and_self]) [↓rules, rules, ↓rulesDp, rulesDq, lit_u64, Int.ofNat_inj, stops, q_int, q_bool, q_cap_Cap, q_api_Errno, es]
    refine rcall_quiet rfl (cap_Less _ _ _ _ _ _ _ _ _ _) ?_
    rw [less_self cg]
    simp (maxSteps := 1000000) (disch := first | assumption | omega | rfl | decide | simp only [fitsR, Bool.and_self]) [↓rules, rules, ↓rulesDp, rulesDq, lit_u64, Int.ofNat_inj, stops, q_int, q_bool, q_cap_Cap, q_api_Errno]
    refine rcall_quiet rfl (cap_Less _ _ _ _ _ _ _ _ _ _) ?_
    cases p : lessC a b c d a' b' c' d'
    · simp (maxSteps := 1000000) (disch := first | assumption | omega | rfl | decide | simp only [fitsR, Bool.and_self]) [↓rules, rules, ↓rulesDp, rulesDq, lit_u64, Int.ofNat_inj, stops, q_int, q_bool, q_cap_Cap, q_api_Errno]
      refine rcall_quiet rfl (cap_Less _ _ _ _ _ _ _ _ _ _) ?_
      rw [p]
      simp (maxSteps := 1000000) (disch := first | assumption | omega | rfl | decide | simp only [fitsR, Bool.and_self]) [↓rules, rules, ↓rulesDp, rulesDq, lit_u64, Int.ofNat_inj, stops, q_int, q_bool, q_cap_Cap, q_api_Errno]
      exact done_q hdom (k4 _) rfl rfl
    simp (maxSteps := 1000000) (disch := first | assumption | omega | rfl | decide | simp only [fitsR, Bool.and_self]) [↓rules, rules, ↓rulesDp, rulesDq, lit_u64, Int.ofNat_inj, stops, q_int, q_bool, q_cap_Cap, q_api_Errno]
    refine rcall_quiet rfl (cap_Less _ _ _ _ _ _ _ _ _ _) ?_
    cases q : lessC a' b' c' d' a'' b'' c'' d''
    · simp (maxSteps := 1000000) (disch := first | assumption | omega | rfl | decide | simp only [fitsR, Bool.and_self]) [↓rules, rules, ↓rulesDp, rulesDq, lit_u64, Int.ofNat_inj, stops, q_int, q_bool, q_cap_Cap, q_api_Errno]
      refine rcall_quiet rfl (cap_Less _ _ _ _ _ _ _ _ _ _) ?_
      rw [p]
      simp (maxSteps := 1000000) (disch := first | assumption | omega | rfl | decide | simp only [fitsR, Bool.and_self]) [↓rules, rules, ↓rulesDp, rulesDq, lit_u64, Int.ofNat_inj, stops, q_int, q_bool, q_cap_Cap, q_api_Errno]
      refine rcall_quiet rfl (cap_Less _ _ _ _ _ _ _ _ _ _) ?_
      cases s : lessC a' b' c' d' a b c d
      · simp (maxSteps := 1000000) (disch := first | assumption | omega | rfl | decide | simp only [fitsR, Bool.and_self]) [↓rules, rules, ↓rulesDp, rulesDq, lit_u64, Int.ofNat_inj, stops, q_int, q_bool, q_cap_Cap, q_api_Errno]
        exact done_q hdom (k4 _) rfl rfl
      · obtain ⟨e1, e2, e3, e4⟩ := less_anti cg cg' p s
        subst e1 e2 e3 e4
        simp (maxSteps := 1000000) (disch := first | assumption | omega | rfl | decide | simp only [fitsR, Bool.and_self]) [↓rules, rules, ↓rulesDp, rulesDq, lit_u64, Int.ofNat_inj, stops, q_int, q_bool, q_cap_Cap, q_api_Errno, beq_cap_Cap]
        exact done_q hdom (k4 _) rfl rfl
    simp (maxSteps := 1000000) (disch := first | assumption | omega | rfl | decide | simp only [fitsR, Bool.and_self]) [↓rules, rules, ↓rulesDp, rulesDq, lit_u64, Int.ofNat_inj, stops, q_int, q_bool, q_cap_Cap, q_api_Errno]
    refine rcall_quiet rfl (cap_Less _ _ _ _ _ _ _ _ _ _) ?_
    rw [less_trans cg cg' cg'' p q]
    simp (maxSteps := 1000000) (disch := first | assumption | omega | rfl | decide | simp only [fitsR, Bool.and_self]) [↓rules, rules, ↓rulesDp, rulesDq, lit_u64, Int.ofNat_inj, stops, q_int, q_bool, q_cap_Cap, q_api_Errno]
    refine rcall_quiet rfl (cap_Less _ _ _ _ _ _ _ _ _ _) ?_
    rw [p]
    simp (maxSteps := 1000000) (disch := first | assumption | omega | rfl | decide | simp only [fitsR, Bool.and_self]) [↓rules, rules, ↓rulesDp, rulesDq, lit_u64, Int.ofNat_inj, stops, q_int, q_bool, q_cap_Cap, q_api_Errno]
    refine rcall_quiet rfl (cap_Less _ _ _ _ _ _ _ _ _ _) ?_
    cases s : lessC a' b' c' d' a b c d
    · simp (maxSteps := 1000000) (disch := first | assumption | omega | rfl | decide | simp only [fitsR, Bool.and_self]) [↓rules, rules, ↓rulesDp, rulesDq, lit_u64, Int.ofNat_inj, stops, q_int, q_bool, q_cap_Cap, q_api_Errno]
      exact done_q hdom (k4 _) rfl rfl
    · obtain ⟨e1, e2, e3, e4⟩ := less_anti cg cg' p s
      subst e1 e2 e3 e4
      simp (maxSteps := 1000000) (disch := first | assumption | omega | rfl | decide | simp only [fitsR, Bool.and_self]) [↓rules, rules, ↓rulesDp, rulesDq, lit_u64, Int.ofNat_inj, stops, q_int, q_bool, q_cap_Cap, q_api_Errno, beq_cap_Cap]
      exact done_q hdom (k4 _) rfl rfl
end Go.Proofs.YtfcbhgiccgommaaDoor.F8
