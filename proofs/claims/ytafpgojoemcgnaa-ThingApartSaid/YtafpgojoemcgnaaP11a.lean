/- Contracts of functions: what each one returns, and what it leaves. No statement is proved here. -/
import Derived.Test.YtafpgojoemcgnaaF11
set_option linter.unusedVariables false
set_option linter.unusedSimpArgs false
namespace Go.Proofs.Ytafpgojoemcgnaa.F11
open Go Go.Proofs Go.Proofs.YtafpgojoemcgnaaAbs
set_option maxRecDepth 100000
abbrev rdW (g : AMem) (v : Value) (ws : List (BitVec 64)) : Prop := Rd g 1 (fun w => [U w]) v ws
abbrev rdI (g : AMem) (v : Value) (xs : List Int) : Prop := Rd g 1 (fun x => [.int .i64 x]) v xs
end Go.Proofs.Ytafpgojoemcgnaa.F11

namespace Go.Proofs.Ytafpgojoemcgnaa.F11
open Go Go.Proofs Go.Proofs.YtafpgojoemcgnaaAbs
set_option maxRecDepth 100000
def M (a b : Int) : BitVec 64 := ((1#64 <<< b.toNat) - 1#64) <<< a.toNat
set_option maxHeartbeats 2000000
theorem mask (a b : Int) (ha : 0 ≤ a) (hb : 0 ≤ b) (g : AMem) (n : Nat) : FnC Try.prog f_tag_Field_mask [.agg #[.int .i64 a, .int .i64 b]] g n (fun _ => False) (U (M a b)) g n := by
  refine fnC_of_rwp t_tag_Field_mask hm rfl fun hdom => ?_
  simp (maxSteps := 1000000) (disch := first | assumption | omega | rfl | decide) [↓rules, rules, lit_u64, aEval_U, splice_nil, splice_zero, splice_step, gset_gset, Int.ofNat_inj, U_junk, U_cells, U_cellOk, ub_and, ub_or, ub_xor, ub_andNot, ub_add, ub_sub, ub_mul, ub_shl, ub_shr, ub_shl', ub_shr', ub_eql, ub_neq, ub_lss, ub_leq, ub_gtr, ub_geq, rc_tag_Field_mask, tf_tag_Field_From, tf_tag_Field_Len, ta_int, ts_int]
  refine done_q hdom ((Kept.refl hdom).new _) ?_ ?_ <;> rfl
abbrev okF (a b : Int) (w : BitVec 64) : Prop := 0 ≤ a ∧ a < 64 ∧ 1 ≤ b ∧ b ≤ 64 - a ∧ w &&& M a b = 0#64
/-- All fields' bits. -/
def allF : List (Int × Int) → BitVec 64 → BitVec 64 × Bool
  | [], w => (w, true)
  | f :: fs, w => if okF f.1 f.2 w then allF fs (w ||| M f.1 f.2) else (0#64, false)
def encF (f : Int × Int) : List Value := [.int .i64 f.1, .int .i64 f.2]
def fOk (f : Int × Int) : Prop := -9223372036854775808 ≤ f.1 ∧ f.1 ≤ 9223372036854775807 ∧ -9223372036854775808 ≤ f.2 ∧ f.2 ≤ 9223372036854775807
theorem all (v : Value) (fs : List (Int × Int)) (g : AMem) (n : Nat) (hl : fs.length < 4611686018427387904) (hfo : ∀ f ∈ fs, fOk f) (hv : Rd g 2 encF v fs) : FnC Try.prog f_tag_all [v] g n (fun _ => False) (.tuple #[U (allF fs 0#64).1, .bool (allF fs 0#64).2]) g n := by
  refine fnC_of_rwp t_tag_all hm rfl fun hdom => ?_
  obtain ⟨a, e', hvf⟩ := hv.form
  simp (maxSteps := 1000000) (disch := first | assumption | omega | rfl | decide) [↓rules, rules, lit_u64, aEval_U, splice_nil, splice_zero, splice_step, gset_gset, Int.ofNat_inj, U_junk, U_cells, U_cellOk, ub_and, ub_or, ub_xor, ub_andNot, ub_add, ub_sub, ub_mul, ub_shl, ub_shr, ub_shl', ub_shr', ub_eql, ub_neq, ub_lss, ub_leq, ub_gtr, ub_geq, rc_tag_all, hvf, tu_S_tag_Field]
  refine rwp_loop (fun k l g' n' => ∃ i w, k = fs.length - i ∧ i ≤ fs.length ∧ Kept g n g' n' ∧ allF (fs.drop i) w = allF fs 0#64 ∧ l = [(4, U w), (7, v), (8, .int .i64 fs.length), (9, .int .i64 i)]) ?_ (k := fs.length) ?_
  · rintro k l g' n' ⟨i, w, rfl, hi, hk, hw, rfl⟩
    simp (maxSteps := 1000000) (disch := first | assumption | omega | rfl | decide) [↓rules, rules, lit_u64, aEval_U, splice_nil, splice_zero, splice_step, gset_gset, Int.ofNat_inj, U_junk, U_cells, U_cellOk, ub_and, ub_or, ub_xor, ub_andNot, ub_add, ub_sub, ub_mul, ub_shl, ub_shr, ub_shl', ub_shr', ub_eql, ub_neq, ub_lss, ub_leq, ub_gtr, ub_geq, rc_tag_alll0]
    refine rcond_dec (fun hlt => ?_) (fun hlt => ?_)
    · have hlt : i < fs.length := by omega
      obtain ⟨b, o, cs, rw_, h1, h2, h3, h4, h5⟩ := hv.elem (fun _ => rfl) hlt
      have hb : b < n := hdom b (by rw [h2]; simp)
      have hn := hk.le
      have hbn : b ≠ n' := by omega
      have h2' : g' b = some (.row cs rw_) := by rw [hk.same b hb, h2]
      have hdrop : fs.drop i = fs[i] :: fs.drop (i + 1) := List.drop_eq_getElem_cons hlt
      have hf := hfo fs[i] (List.getElem_mem hlt)
      generalize fs[i] = f at *
      obtain ⟨p, q⟩ := f
      obtain ⟨hf1, hf2, hf3, hf4⟩ := hf
      simp only at hf1 hf2 hf3 hf4
      rw [hdrop, allF] at hw
      have hld := load_elem (P := Try.prog) h2' ta_tag_Field ts_tag_Field h3 h4
      simp (maxSteps := 1000000) (disch := first | assumption | omega | rfl | decide) [↓rules, rules, lit_u64, aEval_U, splice_nil, splice_zero, splice_step, gset_gset, Int.ofNat_inj, U_junk, U_cells, U_cellOk, ub_and, ub_or, ub_xor, ub_andNot, ub_add, ub_sub, ub_mul, ub_shl, ub_shr, ub_shl', ub_shr', ub_eql, ub_neq, ub_lss, ub_leq, ub_gtr, ub_geq, h1, tu_S_tag_Field, ts_tag_Field, hlt, hld, encF, tz_tag_Field]
      refine ⟨hn, ?_⟩
      have bad : ¬ okF p q w → allF fs 0#64 = (0#64, false) := fun h => by rw [← hw, if_neg h]
      have kn := (hk.new (.row [.int .i64 p, .int .i64 q] true))
      by_cases c1 : p < 0
      · simp (maxSteps := 1000000) (disch := first | assumption | omega | rfl | decide) [↓rules, rules, lit_u64, aEval_U, splice_nil, splice_zero, splice_step, gset_gset, Int.ofNat_inj, U_junk, U_cells, U_cellOk, ub_and, ub_or, ub_xor, ub_andNot, ub_add, ub_sub, ub_mul, ub_shl, ub_shr, ub_shl', ub_shr', ub_eql, ub_neq, ub_lss, ub_leq, ub_gtr, ub_geq, tf_tag_Field_From, tf_tag_Field_Len, ta_int, ts_int, c1]
        refine done_q hdom kn ?_ ?_; · rfl
        rw [bad (by unfold okF; omega)]; rfl
      by_cases c2 : 64 ≤ p
      · simp (maxSteps := 1000000) (disch := first | assumption | omega | rfl | decide) [↓rules, rules, lit_u64, aEval_U, splice_nil, splice_zero, splice_step, gset_gset, Int.ofNat_inj, U_junk, U_cells, U_cellOk, ub_and, ub_or, ub_xor, ub_andNot, ub_add, ub_sub, ub_mul, ub_shl, ub_shr, ub_shl', ub_shr', ub_eql, ub_neq, ub_lss, ub_leq, ub_gtr, ub_geq, tf_tag_Field_From, tf_tag_Field_Len, ta_int, ts_int, c1, c2]
        refine done_q hdom kn ?_ ?_; · rfl
        rw [bad (by unfold okF; omega)]; rfl
      by_cases c3 : q < 1
      · simp (maxSteps := 1000000) (disch := first | assumption | omega | rfl | decide) [↓rules, rules, lit_u64, aEval_U, splice_nil, splice_zero, splice_step, gset_gset, Int.ofNat_inj, U_junk, U_cells, U_cellOk, ub_and, ub_or, ub_xor, ub_andNot, ub_add, ub_sub, ub_mul, ub_shl, ub_shr, ub_shl', ub_shr', ub_eql, ub_neq, ub_lss, ub_leq, ub_gtr, ub_geq, tf_tag_Field_From, tf_tag_Field_Len, ta_int, ts_int, c1, c2, c3]
        refine done_q hdom kn ?_ ?_; · rfl
        rw [bad (by unfold okF; omega)]; rfl
      by_cases c4 : 64 - p < q
      · simp (maxSteps := 1000000) (disch := first | assumption | omega | rfl | decide) [↓rules, rules, lit_u64, aEval_U, splice_nil, splice_zero, splice_step, gset_gset, Int.ofNat_inj, U_junk, U_cells, U_cellOk, ub_and, ub_or, ub_xor, ub_andNot, ub_add, ub_sub, ub_mul, ub_shl, ub_shr, ub_shl', ub_shr', ub_eql, ub_neq, ub_lss, ub_leq, ub_gtr, ub_geq, tf_tag_Field_From, tf_tag_Field_Len, ta_int, ts_int, c1, c2, c3, wrap_i64, c4]
        refine done_q hdom kn ?_ ?_; · rfl
        rw [bad (by unfold okF; omega)]; rfl
      simp (maxSteps := 1000000) (disch := first | assumption | omega | rfl | decide) [↓rules, rules, lit_u64, aEval_U, splice_nil, splice_zero, splice_step, gset_gset, Int.ofNat_inj, U_junk, U_cells, U_cellOk, ub_and, ub_or, ub_xor, ub_andNot, ub_add, ub_sub, ub_mul, ub_shl, ub_shr, ub_shl', ub_shr', ub_eql, ub_neq, ub_lss, ub_leq, ub_gtr, ub_geq, tf_tag_Field_From, tf_tag_Field_Len, ta_int, ts_int, c1, c2, c3, wrap_i64, c4, ta_tag_Field, ts_tag_Field]
      refine rcall_quiet rfl (mask p q (by omega) (by omega) _ _) ?_
      simp (maxSteps := 1000000) (disch := first | assumption | omega | rfl | decide) [↓rules, rules, lit_u64, aEval_U, splice_nil, splice_zero, splice_step, gset_gset, Int.ofNat_inj, U_junk, U_cells, U_cellOk, ub_and, ub_or, ub_xor, ub_andNot, ub_add, ub_sub, ub_mul, ub_shl, ub_shr, ub_shl', ub_shr', ub_eql, ub_neq, ub_lss, ub_leq, ub_gtr, ub_geq]
      refine rcond_bool (fun c5 => ?_) (fun c5 => ?_)
      · refine done_q hdom kn ?_ ?_; · rfl
        rw [bad (by unfold okF; intro h; simp [h.2.2.2.2] at c5)]; rfl
      · have good : okF p q w := by unfold okF; refine ⟨by omega, by omega, by omega, by omega, ?_⟩; simpa using c5
        simp (maxSteps := 1000000) (disch := first | assumption | omega | rfl | decide) [↓rules, rules, lit_u64, aEval_U, splice_nil, splice_zero, splice_step, gset_gset, Int.ofNat_inj, U_junk, U_cells, U_cellOk, ub_and, ub_or, ub_xor, ub_andNot, ub_add, ub_sub, ub_mul, ub_shl, ub_shr, ub_shl', ub_shr', ub_eql, ub_neq, ub_lss, ub_leq, ub_gtr, ub_geq, ta_tag_Field, ts_tag_Field]
        refine rcall_quiet rfl (mask p q (by omega) (by omega) _ _) ?_
        simp (maxSteps := 1000000) (disch := first | assumption | omega | rfl | decide) [↓rules, rules, lit_u64, aEval_U, splice_nil, splice_zero, splice_step, gset_gset, Int.ofNat_inj, U_junk, U_cells, U_cellOk, ub_and, ub_or, ub_xor, ub_andNot, ub_add, ub_sub, ub_mul, ub_shl, ub_shr, ub_shl', ub_shr', ub_eql, ub_neq, ub_lss, ub_leq, ub_gtr, ub_geq, wrap_i64]
        refine ⟨fs.length - (i + 1), by omega, i + 1, rfl, by omega, kn, w ||| M p q, ?_, by simp⟩
        rw [← hw, if_pos good]
    · refine done_q hdom hk ?_ ?_; · rfl
      have : i = fs.length := by omega
      subst this
      rw [List.drop_length, allF] at hw
      rw [← hw]; rfl
  · exact ⟨0, 0#64, by simp, by simp, Kept.refl hdom, by simp, by rw [← hvf]; rfl⟩

def goodF (fs : List (Int × Int)) : Bool := (allF fs 0#64).2
abbrev rdF (g : AMem) (v : Value) (fs : List (Int × Int)) : Prop := Rd g 2 encF v fs
theorem Good (v : Value) (fs : List (Int × Int)) (g : AMem) (n : Nat) (hl : fs.length < 4611686018427387904) (hfo : ∀ f ∈ fs, fOk f) (hv : rdF g v fs) : FnC Try.prog f_tag_Good [v] g n (fun _ => False) (.bool (goodF fs)) g n := by
  refine fnC_of_rwp t_tag_Good hm rfl fun hdom => ?_
  simp (maxSteps := 1000000) (disch := first | assumption | omega | rfl | decide) [↓rules, rules, lit_u64, aEval_U, splice_nil, splice_zero, splice_step, gset_gset, Int.ofNat_inj, U_junk, U_cells, U_cellOk, ub_and, ub_or, ub_xor, ub_andNot, ub_add, ub_sub, ub_mul, ub_shl, ub_shr, ub_shl', ub_shr', ub_eql, ub_neq, ub_lss, ub_leq, ub_gtr, ub_geq, rc_tag_Good]
  refine rcall_quiet rfl (all v fs g n hl hfo hv) ?_
  simp (maxSteps := 1000000) (disch := first | assumption | omega | rfl | decide) [↓rules, rules, lit_u64, aEval_U, splice_nil, splice_zero, splice_step, gset_gset, Int.ofNat_inj, U_junk, U_cells, U_cellOk, ub_and, ub_or, ub_xor, ub_andNot, ub_add, ub_sub, ub_mul, ub_shl, ub_shr, ub_shl', ub_shr', ub_eql, ub_neq, ub_lss, ub_leq, ub_gtr, ub_geq]
  refine done_q hdom (Kept.refl hdom) ?_ ?_ <;> rfl
theorem allF_good : ∀ (fs : List (Int × Int)) (w : BitVec 64), (allF fs w).2 = true → ∀ f ∈ fs, 0 ≤ f.1 ∧ f.1 < 64 ∧ 1 ≤ f.2 ∧ f.2 ≤ 64 - f.1
  | [], w, h, f, hf => by cases hf
  | x :: fs, w, h, f, hf => by
    rw [allF] at h
    split at h
    · rename_i ho
      cases hf with
      | head => exact ⟨ho.1, ho.2.1, ho.2.2.1, ho.2.2.2.1⟩
      | tail _ hf => exact allF_good fs _ h f hf
    · cases h
def getF (w : BitVec 64) (f : Int × Int) : BitVec 64 := (w &&& M f.1 f.2) >>> f.1.toNat
def getsF (w : BitVec 64) (fs : List (Int × Int)) : List (BitVec 64) := if goodF fs = true then fs.map (getF w) else []
theorem cellOks (ws : List (BitVec 64)) : (ws.map U).all cellOk = true := by
  induction ws with
  | nil => rfl
  | cons w ws ih => simp [ih, U_cellOk]
theorem Get (w : BitVec 64) (v : Value) (fs : List (Int × Int)) (g : AMem) (n : Nat) (hdom : ∀ i, g i ≠ none → i < n) (hl : fs.length ≤ 1000) (hfo : ∀ f ∈ fs, fOk f) (hv : rdF g v fs) :
    FnS Try.prog f_tag_Get [U w, v] g n (fun _ => False) fun r g' n' => rdW g' r (getsF w fs) ∧ Kept g n g' n' := by
  refine fnS_of_rwp t_tag_Get hm rfl hdom ?_
  obtain ⟨a, e', hvf⟩ := hv.form
  simp (maxSteps := 1000000) (disch := first | assumption | omega | rfl | decide) [↓rules, rules, lit_u64, aEval_U, splice_nil, splice_zero, splice_step, gset_gset, Int.ofNat_inj, U_junk, U_cells, U_cellOk, ub_and, ub_or, ub_xor, ub_andNot, ub_add, ub_sub, ub_mul, ub_shl, ub_shr, ub_shl', ub_shr', ub_eql, ub_neq, ub_lss, ub_leq, ub_gtr, ub_geq, rc_tag_Get]
  refine rcall_quiet rfl (Good v fs g n (by omega) hfo hv) ?_
  simp (maxSteps := 1000000) (disch := first | assumption | omega | rfl | decide) [↓rules, rules, lit_u64, aEval_U, splice_nil, splice_zero, splice_step, gset_gset, Int.ofNat_inj, U_junk, U_cells, U_cellOk, ub_and, ub_or, ub_xor, ub_andNot, ub_add, ub_sub, ub_mul, ub_shl, ub_shr, ub_shl', ub_shr', ub_eql, ub_neq, ub_lss, ub_leq, ub_gtr, ub_geq, hvf, tu_S_tag_Field, aMake_eq tu_S_uint64 ts_uint64 tb_uint64 tv_uint64, zeroRow_zero]
  refine rcond_bool (fun c => ?_) (fun c => ?_)
  · have c : goodF fs = false := by simpa using c
    refine sdone_ret rfl ⟨?_, Kept.refl hdom⟩
    rw [getsF, c]; exact Rd.nil
  · have c : goodF fs = true := by simpa using c
    have hok := allF_good fs 0#64 c
    have l1 : (fs.length : Int) ≤ 70368744177664 := by omega
    have l2 : 8 * fs.length ≤ 70368744177664 := by omega
    simp (maxSteps := 1000000) (disch := first | assumption | omega | rfl | decide) [↓rules, rules, lit_u64, aEval_U, splice_nil, splice_zero, splice_step, gset_gset, Int.ofNat_inj, U_junk, U_cells, U_cellOk, ub_and, ub_or, ub_xor, ub_andNot, ub_add, ub_sub, ub_mul, ub_shl, ub_shr, ub_shl', ub_shr', ub_eql, ub_neq, ub_lss, ub_leq, ub_gtr, ub_geq, l1, l2, hvf, tu_S_tag_Field]
    refine rwp_loop (fun k l g' n' => ∃ i b, k = fs.length - i ∧ i ≤ fs.length ∧ Kept g n g' n' ∧ n ≤ b ∧ g' b = some (.row ((fs.map fun f => U (getF w f)).take i) true) ∧ l = [(0, U w), (5, .slice (some ⟨b, 0, none⟩) i 1), (14, v), (15, .int .i64 fs.length), (16, .int .i64 i)]) ?_ (k := fs.length) ?_
    · rintro k l g' n' ⟨i, b, rfl, hi, hk, hb, hgb, rfl⟩
      simp (maxSteps := 1000000) (disch := first | assumption | omega | rfl | decide) [↓rules, rules, lit_u64, aEval_U, splice_nil, splice_zero, splice_step, gset_gset, Int.ofNat_inj, U_junk, U_cells, U_cellOk, ub_and, ub_or, ub_xor, ub_andNot, ub_add, ub_sub, ub_mul, ub_shl, ub_shr, ub_shl', ub_shr', ub_eql, ub_neq, ub_lss, ub_leq, ub_gtr, ub_geq, rc_tag_Getl0]
      refine rcond_dec (fun hlt => ?_) (fun hlt => ?_)
      · have hlt : i < fs.length := by omega
        obtain ⟨b1, o1, h1, hb1, h2, h3⟩ := Rd.many (enc := encF) (e := 2) (fun _ => rfl) hv hlt
        have e1 := h2 g' (hk.ext hdom) Try.prog _ ta_tag_Field ts_tag_Field
        have hp := hok fs[i] (List.getElem_mem hlt)
        have hb1 := hdom b1 hb1
        have hbn := hk.lt hgb
        have hn := hk.le
        simp (maxSteps := 1000000) (disch := first | assumption | omega | rfl | decide) [↓rules, rules, lit_u64, aEval_U, splice_nil, splice_zero, splice_step, gset_gset, Int.ofNat_inj, U_junk, U_cells, U_cellOk, ub_and, ub_or, ub_xor, ub_andNot, ub_add, ub_sub, ub_mul, ub_shl, ub_shr, ub_shl', ub_shr', ub_eql, ub_neq, ub_lss, ub_leq, ub_gtr, ub_geq, h1, tu_S_tag_Field, ts_tag_Field, hlt, e1, encF, tz_tag_Field, tf_tag_Field_From, ta_tag_Field]
        refine ⟨hn, ?_⟩
        refine rcall_quiet rfl (mask _ _ (by omega) (by omega) _ _) ?_
        have hbn1 : b ≠ n' := by omega
        have hbn2 : b ≠ n' + 1 := by omega
        have hsz : (i + 1) * 8 ≤ 70368744177664 := by omega
        have hsz2 : i + 1 ≤ 70368744177664 := by omega
        have hmin : min i fs.length = i := by omega
        simp (maxSteps := 1000000) (disch := first | assumption | omega | rfl | decide) [↓rules, rules, lit_u64, aEval_U, splice_nil, splice_zero, splice_step, gset_gset, Int.ofNat_inj, U_junk, U_cells, U_cellOk, ub_and, ub_or, ub_xor, ub_andNot, ub_add, ub_sub, ub_mul, ub_shl, ub_shr, ub_shl', ub_shr', ub_eql, ub_neq, ub_lss, ub_leq, ub_gtr, ub_geq, fillS_nil, fillS_cons, fillP_nil, fillP_cons, fillO_some, nthP_cons, zeroRow_one, aRead_at, aRead_nil, readR_row, appR_nil, appR_row, appR1_row, appR_zero, grow_row, hbn1, hbn2, hsz, hsz2, hmin, tf_tag_Field_From, tf_tag_Field_Len, ta_int, ts_int, do_buildL tu_S_uint64 tz_uint64 ts_uint64 rfl, aAppend1 tu_S_uint64 ts_uint64 tb_uint64 tv_uint64 rfl, hgb]
        refine ⟨hb, fs.length - (i + 1), by omega, i + 1, rfl, by omega, (((hk.new _).new _).drop hb).new _, n' + 1 + 1, by omega, ?_, ⟨rfl, rfl⟩, wrap_i64 (by omega) (by omega)⟩
        rw [if_pos rfl, List.take_add_one, List.getElem?_eq_getElem (by simpa using hlt)]
        simp [getF]
      · have : i = fs.length := by omega
        refine sdone_ret rfl ⟨?_, hk⟩
        rw [getsF, if_pos c]
        show Rd g' 1 (fun w => [U w]) (.slice (some ⟨b, 0, none⟩) i 1) _
        refine Rd.of_row (enc := fun w => [U w]) (fun _ => rfl) hgb ?_ ?_ ?_
        · simp; omega
        · subst this; simp [flatMap_one, List.take_of_length_le, Function.comp_def]
        · simp; omega
    · exact ⟨0, n, by simp, by simp, (Kept.refl hdom).new _, Nat.le_refl _, by simp [gset], by rw [← hvf]; rfl⟩
def putF : List (Int × Int) → List (BitVec 64) → BitVec 64 → BitVec 64 × Bool
  | f :: fs, x :: xs, w => if M f.1 f.2 >>> f.1.toNat < x then (0#64, false) else putF fs xs (w ||| x <<< f.1.toNat)
  | _, _, w => (w, true)
def putsF (fs : List (Int × Int)) (xs : List (BitVec 64)) : BitVec 64 × Bool := if goodF fs = true ∧ fs.length = xs.length then putF fs xs 0#64 else (0#64, false)
theorem Put (v vx : Value) (fs : List (Int × Int)) (xs : List (BitVec 64)) (g : AMem) (n : Nat) (hl : fs.length ≤ 1000) (hl' : xs.length ≤ 1000) (hfo : ∀ f ∈ fs, fOk f) (hv : rdF g v fs) (hx : rdW g vx xs) :
    FnC Try.prog f_tag_Put [v, vx] g n (fun _ => False) (.tuple #[U (putsF fs xs).1, .bool (putsF fs xs).2]) g n := by
  refine fnC_of_rwp t_tag_Put hm rfl fun hdom => ?_
  obtain ⟨a, e', hvf⟩ := hv.form
  obtain ⟨ax, ex, hvx⟩ := hx.form
  simp (maxSteps := 1000000) (disch := first | assumption | omega | rfl | decide) [↓rules, rules, lit_u64, aEval_U, splice_nil, splice_zero, splice_step, gset_gset, Int.ofNat_inj, U_junk, U_cells, U_cellOk, ub_and, ub_or, ub_xor, ub_andNot, ub_add, ub_sub, ub_mul, ub_shl, ub_shr, ub_shl', ub_shr', ub_eql, ub_neq, ub_lss, ub_leq, ub_gtr, ub_geq, rc_tag_Put]
  refine rcall_quiet rfl (Good v fs g n (by omega) hfo hv) ?_
  cases c : goodF fs
  · simp (maxSteps := 1000000) (disch := first | assumption | omega | rfl | decide) [↓rules, rules, lit_u64, aEval_U, splice_nil, splice_zero, splice_step, gset_gset, Int.ofNat_inj, U_junk, U_cells, U_cellOk, ub_and, ub_or, ub_xor, ub_andNot, ub_add, ub_sub, ub_mul, ub_shl, ub_shr, ub_shl', ub_shr', ub_eql, ub_neq, ub_lss, ub_leq, ub_gtr, ub_geq]
    refine done_q hdom (Kept.refl hdom) ?_ ?_; · rfl
    rw [putsF, c]; simp; rfl
  by_cases hne : fs.length = xs.length
  case neg =>
    simp (maxSteps := 1000000) (disch := first | assumption | omega | rfl | decide) [↓rules, rules, lit_u64, aEval_U, splice_nil, splice_zero, splice_step, gset_gset, Int.ofNat_inj, U_junk, U_cells, U_cellOk, ub_and, ub_or, ub_xor, ub_andNot, ub_add, ub_sub, ub_mul, ub_shl, ub_shr, ub_shl', ub_shr', ub_eql, ub_neq, ub_lss, ub_leq, ub_gtr, ub_geq, hvf, hvx, tu_S_tag_Field, tu_S_uint64, hne]
    refine done_q hdom (Kept.refl hdom) ?_ ?_; · rfl
    rw [putsF, if_neg (fun h => hne h.2)]; rfl
  simp (maxSteps := 1000000) (disch := first | assumption | omega | rfl | decide) [↓rules, rules, lit_u64, aEval_U, splice_nil, splice_zero, splice_step, gset_gset, Int.ofNat_inj, U_junk, U_cells, U_cellOk, ub_and, ub_or, ub_xor, ub_andNot, ub_add, ub_sub, ub_mul, ub_shl, ub_shr, ub_shl', ub_shr', ub_eql, ub_neq, ub_lss, ub_leq, ub_gtr, ub_geq, hvf, hvx, tu_S_tag_Field, tu_S_uint64, hne]
  rw [putsF, if_pos ⟨c, hne⟩]
  have hok := allF_good fs 0#64 c
  rw [show Value.slice a xs.length e' = v by rw [hvf, hne], ← hvx]
  refine rwp_loop (fun k l g' n' => ∃ i w, k = fs.length - i ∧ i ≤ fs.length ∧ Kept g n g' n' ∧ putF (fs.drop i) (xs.drop i) w = putF fs xs 0#64 ∧ l = [(1, vx), (6, U w), (19, v), (20, .int .i64 xs.length), (21, .int .i64 i)]) ?_ (k := fs.length) ?_
  · rintro k l g' n' ⟨i, w, rfl, hi, hk, hw, rfl⟩
    simp (maxSteps := 1000000) (disch := first | assumption | omega | rfl | decide) [↓rules, rules, lit_u64, aEval_U, splice_nil, splice_zero, splice_step, gset_gset, Int.ofNat_inj, U_junk, U_cells, U_cellOk, ub_and, ub_or, ub_xor, ub_andNot, ub_add, ub_sub, ub_mul, ub_shl, ub_shr, ub_shl', ub_shr', ub_eql, ub_neq, ub_lss, ub_leq, ub_gtr, ub_geq, rc_tag_Putl0]
    refine rcond_dec (fun hlt => ?_) (fun hlt => ?_)
    · have hlt : i < fs.length := by omega
      have hltx : i < xs.length := by omega
      obtain ⟨b1, o1, h1, hb1, h2, h3⟩ := Rd.many (enc := encF) (e := 2) (fun _ => rfl) hv hlt
      obtain ⟨b2, o2, h4, hb2, h5⟩ := hx.one hltx
      have e1 := h2 g' (hk.ext hdom) Try.prog _ ta_tag_Field ts_tag_Field
      have hp := hok fs[i] (List.getElem_mem hlt)
      have kn := hk.new (.row [.int .i64 fs[i].1, .int .i64 fs[i].2] true)
      have e2 := h5 _ (kn.ext hdom) Try.prog _ ta_uint64
      have hn := hk.le
      have hb2 := hdom b2 hb2
      have hb2n : b2 ≠ n' := by omega
      simp (maxSteps := 1000000) (disch := first | assumption | omega | rfl | decide) [↓rules, rules, lit_u64, aEval_U, splice_nil, splice_zero, splice_step, gset_gset, Int.ofNat_inj, U_junk, U_cells, U_cellOk, ub_and, ub_or, ub_xor, ub_andNot, ub_add, ub_sub, ub_mul, ub_shl, ub_shr, ub_shl', ub_shr', ub_eql, ub_neq, ub_lss, ub_leq, ub_gtr, ub_geq, h1, tu_S_tag_Field, ts_tag_Field, hlt, hltx, hne, e1, encF, tz_tag_Field, tf_tag_Field_From, ta_tag_Field]
      refine ⟨hn, ?_⟩
      rw [h4]
      simp (maxSteps := 1000000) (disch := first | assumption | omega | rfl | decide) [↓rules, rules, lit_u64, aEval_U, splice_nil, splice_zero, splice_step, gset_gset, Int.ofNat_inj, U_junk, U_cells, U_cellOk, ub_and, ub_or, ub_xor, ub_andNot, ub_add, ub_sub, ub_mul, ub_shl, ub_shr, ub_shl', ub_shr', ub_eql, ub_neq, ub_lss, ub_leq, ub_gtr, ub_geq, tf_tag_Field_From, tf_tag_Field_Len, ta_tag_Field, ts_tag_Field, tu_S_uint64, ts_uint64, hltx, e2]
      refine rcall_quiet rfl (mask _ _ (by omega) (by omega) _ _) ?_
      have hdf : fs.drop i = fs[i] :: fs.drop (i + 1) := List.drop_eq_getElem_cons hlt
      have hdx : xs.drop i = xs[i] :: xs.drop (i + 1) := List.drop_eq_getElem_cons hltx
      rw [hdf, hdx, putF] at hw
      simp (maxSteps := 1000000) (disch := first | assumption | omega | rfl | decide) [↓rules, rules, lit_u64, aEval_U, splice_nil, splice_zero, splice_step, gset_gset, Int.ofNat_inj, U_junk, U_cells, U_cellOk, ub_and, ub_or, ub_xor, ub_andNot, ub_add, ub_sub, ub_mul, ub_shl, ub_shr, ub_shl', ub_shr', ub_eql, ub_neq, ub_lss, ub_leq, ub_gtr, ub_geq, tf_tag_Field_From, tf_tag_Field_Len, ta_int, ts_int]
      refine rcond_dec (fun c2 => ?_) (fun c2 => ?_)
      · refine done_q hdom kn ?_ ?_; · rfl
        rw [if_pos c2] at hw; rw [← hw]; rfl
      · rw [if_neg c2] at hw
        simp (maxSteps := 1000000) (disch := first | assumption | omega | rfl | decide) [↓rules, rules, lit_u64, aEval_U, splice_nil, splice_zero, splice_step, gset_gset, Int.ofNat_inj, U_junk, U_cells, U_cellOk, ub_and, ub_or, ub_xor, ub_andNot, ub_add, ub_sub, ub_mul, ub_shl, ub_shr, ub_shl', ub_shr', ub_eql, ub_neq, ub_lss, ub_leq, ub_gtr, ub_geq, tf_tag_Field_From, tf_tag_Field_Len, ta_int, ts_int, ta_tag_Field, ts_tag_Field, tu_S_uint64, ts_uint64, hltx, e2]
        refine ⟨xs.length - (i + 1), by omega, i + 1, rfl, by omega, kn, _, hw, ?_⟩
        simp [wrap_i64 (show -9223372036854775808 ≤ (i : Int) + 1 by omega) (by omega)]
    · have : i = fs.length := by omega
      refine done_q hdom hk ?_ ?_; · rfl
      rw [this, List.drop_length, putF] at hw
      · rw [← hw]; rfl
      · simp
  · exact ⟨0, 0#64, by simp, by simp, Kept.refl hdom, by simp, by rfl⟩
end Go.Proofs.Ytafpgojoemcgnaa.F11

namespace Go.Proofs.Ytafpgojoemcgnaa.F11
open Go Go.Proofs Go.Proofs.YtafpgojoemcgnaaAbs
set_option maxRecDepth 100000
set_option maxHeartbeats 2000000
theorem words (va vb : Value) (xs ys : List (BitVec 64)) (g : AMem) (n : Nat) (hl : xs.length < 4611686018427387904) (hl' : ys.length < 4611686018427387904) (ha : rdW g va xs) (hb : rdW g vb ys) : FnC Try.prog f_reevelaw11_words [va, vb] g n (fun _ => False) (.bool (decide (xs = ys))) g n := by
  refine fnC_of_rwp t_reevelaw11_words hm rfl fun hdom => ?_
  obtain ⟨a, ea, hva⟩ := ha.form
  obtain ⟨b, eb, hvb⟩ := hb.form
  by_cases hne : xs.length = ys.length
  case neg =>
    simp (maxSteps := 1000000) (disch := first | assumption | omega | rfl | decide) [↓rules, rules, lit_u64, aEval_U, splice_nil, splice_zero, splice_step, gset_gset, Int.ofNat_inj, U_junk, U_cells, U_cellOk, ub_and, ub_or, ub_xor, ub_andNot, ub_add, ub_sub, ub_mul, ub_shl, ub_shr, ub_shl', ub_shr', ub_eql, ub_neq, ub_lss, ub_leq, ub_gtr, ub_geq, rc_reevelaw11_words, hva, hvb, tu_S_uint64, hne]
    refine done_q hdom (Kept.refl hdom) ?_ ?_; · rfl
    rw [show decide (xs = ys) = false by simp only [decide_eq_false_iff_not]; intro h; exact hne (by rw [h])]; rfl
  simp (maxSteps := 1000000) (disch := first | assumption | omega | rfl | decide) [↓rules, rules, lit_u64, aEval_U, splice_nil, splice_zero, splice_step, gset_gset, Int.ofNat_inj, U_junk, U_cells, U_cellOk, ub_and, ub_or, ub_xor, ub_andNot, ub_add, ub_sub, ub_mul, ub_shl, ub_shr, ub_shl', ub_shr', ub_eql, ub_neq, ub_lss, ub_leq, ub_gtr, ub_geq, rc_reevelaw11_words, hva, hvb, tu_S_uint64, hne]
  rw [← hvb, show Value.slice a ys.length ea = va by rw [hva, hne]]
  refine rwp_loop (fun k l g' n' => ∃ i, k = xs.length - i ∧ i ≤ xs.length ∧ g' = g ∧ n' = n ∧ xs.take i = ys.take i ∧ l = [(0, va), (1, vb), (5, .int .i64 i)]) ?_ (k := xs.length) ?_
  · rintro k l g' n' ⟨i, rfl, hi, rfl, rfl, he, rfl⟩
    simp (maxSteps := 1000000) (disch := first | assumption | omega | rfl | decide) [↓rules, rules, lit_u64, aEval_U, splice_nil, splice_zero, splice_step, gset_gset, Int.ofNat_inj, U_junk, U_cells, U_cellOk, ub_and, ub_or, ub_xor, ub_andNot, ub_add, ub_sub, ub_mul, ub_shl, ub_shr, ub_shl', ub_shr', ub_eql, ub_neq, ub_lss, ub_leq, ub_gtr, ub_geq, rc_reevelaw11_wordsl0, hva, tu_S_uint64]
    refine rcond_dec (fun hlt => ?_) (fun hlt => ?_)
    · have hlt1 : i < xs.length := by omega
      obtain ⟨b1, o1, h1, _, h2⟩ := ha.one hlt1
      obtain ⟨b2, o2, h3, _, h4⟩ := hb.one (show i < ys.length by omega)
      have e1 := h2 g' (Ext.refl _) Try.prog _ ta_uint64
      have e2 := h4 g' (Ext.refl _) Try.prog _ ta_uint64
      rw [← hva]
      have hlt2 : i < ys.length := by omega
      simp (maxSteps := 1000000) (disch := first | assumption | omega | rfl | decide) [↓rules, rules, lit_u64, aEval_U, splice_nil, splice_zero, splice_step, gset_gset, Int.ofNat_inj, U_junk, U_cells, U_cellOk, ub_and, ub_or, ub_xor, ub_andNot, ub_add, ub_sub, ub_mul, ub_shl, ub_shr, ub_shl', ub_shr', ub_eql, ub_neq, ub_lss, ub_leq, ub_gtr, ub_geq, h1, h3, tu_S_uint64, ts_uint64, e1, e2, hne, hlt2]
      have htake : ∀ (zs : List (BitVec 64)) (h : i < zs.length), zs.take (i + 1) = zs.take i ++ [zs[i]] := fun zs h => by rw [List.take_add_one, List.getElem?_eq_getElem h]; rfl
      refine rcond_bool (fun c => ?_) (fun c => ?_)
      · refine done_q hdom (Kept.refl hdom) ?_ ?_; · rfl
        have c : xs[i] ≠ ys[i] := by simpa using c
        rw [show decide (xs = ys) = false by simp only [decide_eq_false_iff_not]; intro h; subst h; exact c rfl]; rfl
      · have c : xs[i] = ys[i] := by simpa using c
        simp (maxSteps := 1000000) (disch := first | assumption | omega | rfl | decide) [↓rules, rules, lit_u64, aEval_U, splice_nil, splice_zero, splice_step, gset_gset, Int.ofNat_inj, U_junk, U_cells, U_cellOk, ub_and, ub_or, ub_xor, ub_andNot, ub_add, ub_sub, ub_mul, ub_shl, ub_shr, ub_shl', ub_shr', ub_eql, ub_neq, ub_lss, ub_leq, ub_gtr, ub_geq, wrap_i64]
        refine ⟨ys.length - (i + 1), by omega, i + 1, rfl, by omega, ?_⟩
        refine ⟨by rw [htake xs hlt1, htake ys hlt2, he, c], ?_⟩
        simp
    · refine done_q hdom (Kept.refl hdom) ?_ ?_; · rfl
      have e1 : i = xs.length := by omega
      have e2 : i = ys.length := by omega
      rw [e1, List.take_length, ← e1, e2, List.take_length] at he
      rw [show decide (xs = ys) = true by simpa using he]; rfl
  · exact ⟨0, by simp, by simp, rfl, rfl, by simp, by rfl⟩

end Go.Proofs.Ytafpgojoemcgnaa.F11

namespace Go.Proofs.Ytafpgojoemcgnaa.F11
open Go Go.Proofs Go.Proofs.YtafpgojoemcgnaaAbs
set_option maxRecDepth 100000
theorem ones_bit (b i : Nat) (hb : b ≤ 64) (hi : i < 64) : ((1#64 <<< b) - 1#64).getLsbD i = decide (i < b) := by
  have e : ((1#64 <<< b) - 1#64).toNat = 2 ^ b - 1 := by
    rw [BitVec.toNat_sub, BitVec.toNat_shiftLeft, Nat.shiftLeft_eq]
    by_cases h : b = 64
    · subst h; decide
    · have h1 : (2 : Nat) ^ b < 2 ^ 64 := Nat.pow_lt_pow_right (by decide) (by omega)
      have h2 : 0 < (2 : Nat) ^ b := Nat.pow_pos (by decide)
      simp only [BitVec.toNat_ofNat]
      have e1 : 1 % 2 ^ 64 * 2 ^ b % 2 ^ 64 = 2 ^ b := by rw [Nat.mod_eq_of_lt (a := 1) (by decide), Nat.one_mul, Nat.mod_eq_of_lt h1]
      rw [e1]; omega
  rw [BitVec.getLsbD, e, Nat.testBit_two_pow_sub_one]
theorem M_bit (p q : Int) (hp : 0 ≤ p) (hq : 0 ≤ q) (hs : p + q ≤ 64) (i : Nat) (hi : i < 64) : (M p q).getLsbD i = decide (p.toNat ≤ i ∧ i < p.toNat + q.toNat) := by
  unfold M
  rw [BitVec.getLsbD_shiftLeft]
  by_cases h : i < p.toNat
  · simp [h, hi]; omega
  · rw [ones_bit _ _ (by omega) (by omega)]
    simp only [hi, h, decide_true, decide_false, Bool.not_false, Bool.true_and, decide_eq_decide]; omega
def okS (f : Int × Int) : Prop := 0 ≤ f.1 ∧ f.1 < 64 ∧ 1 ≤ f.2 ∧ f.2 ≤ 64 - f.1
theorem getF_back (w : BitVec 64) (f : Int × Int) (h : okS f) : getF w f <<< f.1.toNat = w &&& M f.1 f.2 := by
  obtain ⟨h1, h2, h3, h4⟩ := h
  apply BitVec.eq_of_getLsbD_eq
  intro i hi
  rw [getF, BitVec.getLsbD_shiftLeft]
  by_cases h : i < f.1.toNat
  · have := M_bit f.1 f.2 h1 (by omega) (by omega) i hi
    have hz : (M f.1 f.2).getLsbD i = false := by rw [this]; simp; omega
    simp only [hi, h, decide_true, Bool.not_true, Bool.and_false, Bool.false_and, BitVec.getLsbD_and, hz]
  · simp [h, hi, show f.1.toNat + (i - f.1.toNat) = i by omega]
theorem getF_le (w : BitVec 64) (f : Int × Int) : ¬ M f.1 f.2 >>> f.1.toNat < getF w f := by
  rw [BitVec.not_lt, BitVec.le_def, getF, BitVec.toNat_ushiftRight, BitVec.toNat_ushiftRight, BitVec.toNat_and, Nat.shiftRight_eq_div_pow, Nat.shiftRight_eq_div_pow]
  exact Nat.div_le_div_right Nat.and_le_right
def orF : List (Int × Int) → BitVec 64
  | [] => 0#64
  | f :: fs => M f.1 f.2 ||| orF fs
theorem allF_val : ∀ (fs : List (Int × Int)) (w : BitVec 64), (allF fs w).2 = true → (allF fs w).1 = w ||| orF fs
  | [], w, h => by simp [allF, orF]
  | f :: fs, w, h => by
    rw [allF] at h ⊢
    split at h
    · rename_i ho
      rw [if_pos ho, allF_val fs _ h, orF, BitVec.or_assoc]
    · cases h
theorem putF_gets (w : BitVec 64) : ∀ (fs : List (Int × Int)) (acc : BitVec 64), (∀ f ∈ fs, okS f) → putF fs (fs.map (getF w)) acc = (acc ||| (w &&& orF fs), true)
  | [], acc, h => by simp [putF, orF]
  | f :: fs, acc, h => by
    rw [List.map_cons, putF, if_neg (getF_le w f), putF_gets w fs _ (fun f hf => h f (by simp [hf])), getF_back w f (h f (by simp)), orF]
    congr 1
    apply BitVec.eq_of_getLsbD_eq
    intro i hi
    simp only [BitVec.getLsbD_or, BitVec.getLsbD_and, Bool.and_or_distrib_left, Bool.or_assoc]
theorem orF_mem : ∀ (fs : List (Int × Int)) (f : Int × Int), f ∈ fs → orF fs &&& M f.1 f.2 = M f.1 f.2
  | g :: fs, f, h => by
    apply BitVec.eq_of_getLsbD_eq
    intro i hi
    cases h with
    | head => simp only [orF, BitVec.getLsbD_or, BitVec.getLsbD_and]; cases (M g.1 g.2).getLsbD i <;> simp
    | tail _ h =>
      have := congrArg (fun x => BitVec.getLsbD x i) (orF_mem fs f h)
      simp only [BitVec.getLsbD_and] at this
      simp only [orF, BitVec.getLsbD_or, BitVec.getLsbD_and]
      cases h1 : (M f.1 f.2).getLsbD i <;> simp_all
/-- All fields' bits. -/
def A (fs : List (Int × Int)) : BitVec 64 := (allF fs 0#64).1
theorem A_eq {fs : List (Int × Int)} (h : goodF fs = true) : A fs = orF fs := by rw [A, allF_val fs _ h]; simp
theorem puts_gets (w : BitVec 64) {fs : List (Int × Int)} (h : goodF fs = true) : putsF fs (getsF w fs) = (w &&& A fs, true) := by
  rw [putsF, getsF, if_pos h, if_pos ⟨h, by simp⟩, putF_gets w fs _ (allF_good fs _ h), A_eq h]; simp
theorem gets_and (w : BitVec 64) {fs : List (Int × Int)} (h : goodF fs = true) : getsF (w &&& A fs) fs = getsF w fs := by
  rw [getsF, getsF, if_pos h, if_pos h]
  apply List.map_congr_left
  intro f hf
  rw [getF, getF, BitVec.and_assoc, A_eq h, orF_mem fs f hf]
theorem split_or (w a : BitVec 64) : w &&& a ||| w &&& ~~~ a = w := by
  apply BitVec.eq_of_getLsbD_eq
  intro i hi
  simp only [BitVec.getLsbD_or, BitVec.getLsbD_and, BitVec.getLsbD_not, hi, decide_true, Bool.true_and]
  cases w.getLsbD i <;> cases a.getLsbD i <;> rfl
theorem split_and (w a : BitVec 64) : w &&& a &&& (w &&& ~~~ a) = 0#64 := by
  apply BitVec.eq_of_getLsbD_eq
  intro i hi
  simp only [BitVec.getLsbD_and, BitVec.getLsbD_not, hi, decide_true, Bool.true_and, BitVec.getLsbD_zero]
  cases w.getLsbD i <;> cases a.getLsbD i <;> rfl
theorem split_not (w a : BitVec 64) : w &&& a &&& ~~~ a = 0#64 := by
  apply BitVec.eq_of_getLsbD_eq
  intro i hi
  simp only [BitVec.getLsbD_and, BitVec.getLsbD_not, hi, decide_true, Bool.true_and, BitVec.getLsbD_zero]
  cases w.getLsbD i <;> cases a.getLsbD i <;> rfl
end Go.Proofs.Ytafpgojoemcgnaa.F11

namespace Go.Proofs.Ytafpgojoemcgnaa.F11
open Go Go.Proofs Go.Proofs.YtafpgojoemcgnaaAbs
set_option maxRecDepth 100000
/-- A slice that is read, as a row. -/
theorem rd_all {α : Type} {enc : α → List Value} {e : Nat} {g : AMem} {v : Value} {xs : List α} (h : Rd g e enc v xs) (h0 : 0 < xs.length) : ∃ b o cs r, v = .slice (some ⟨b, o, none⟩) xs.length e ∧ g b = some (.row cs r) ∧ o + xs.length * e ≤ cs.length ∧ xs.flatMap enc = (cs.drop o).take (xs.length * e) := aRead_row h h0
/-- Its elements. -/
theorem rd_elems {α : Type} {f : α → Value} {g : AMem} {v : Value} {xs : List α} (h : Rd g 1 (fun x => [f x]) v xs) (h0 : 0 < xs.length) :
    ∃ b o, v = .slice (some ⟨b, o, none⟩) xs.length 1 ∧ g b ≠ none ∧ ∀ (i : Nat) (hi : i < xs.length) (g2 : AMem), Ext g g2 → ∀ (P : Program) (t : TypeId), tagg P t = some false → aLoad P g2 t (.pointer (some ⟨b, o + i, none⟩)) = some (f xs[i]) := by
  obtain ⟨b, o, h1, h2, _⟩ := h.one h0
  refine ⟨b, o, h1, h2, fun i hi g2 hx P t ht => ?_⟩
  obtain ⟨b', o', h3, _, h4⟩ := h.one hi
  rw [h1] at h3
  simp only [Value.slice.injEq, Option.some.injEq, Addr.mk.injEq] at h3
  obtain ⟨⟨rfl, rfl, _⟩, _⟩ := h3
  exact h4 g2 hx P t ht
theorem rd_nths {α : Type} {f : α → Value} {g : AMem} {v : Value} {xs : List α} (h : Rd g 1 (fun x => [f x]) v xs) (h0 : 0 < xs.length) :
    ∃ b o cs r, v = .slice (some ⟨b, o, none⟩) xs.length 1 ∧ g b = some (.row cs r) ∧ ∀ (i : Nat) (hi : i < xs.length), nth cs (o + i) = some (f xs[i]) := by
  obtain ⟨b, o, cs, r, h1, h2, h3, h4⟩ := rd_all h h0
  refine ⟨b, o, cs, r, h1, h2, fun i hi => ?_⟩
  rw [flatMap_one, Nat.mul_one] at h4
  have : (xs.map f)[i]? = some (f xs[i]) := by simp [hi]
  rw [h4, List.getElem?_take, if_pos hi, List.getElem?_drop] at this
  rw [← nth_eq]; exact this
/-- A part of it. -/
theorem rd_part {α : Type} {enc : α → List Value} {e : Nat} (he : ∀ x, (enc x).length = e) {g : AMem} {b o n : Nat} {xs : List α} (h : Rd g e enc (.slice (some ⟨b, o, none⟩) n e) xs) (k m : Nat) (hm : k + m ≤ xs.length) : Rd g e enc (.slice (some ⟨b, o + k * e, none⟩) m e) ((xs.drop k).take m) := by
  have hn : n = xs.length := by
    obtain ⟨a, e', h1⟩ := h.form
    simp only [Value.slice.injEq] at h1
    exact h1.2.1
  have hl : ((xs.drop k).take m).length = m := by rw [List.length_take, List.length_drop]; omega
  by_cases h0 : m = 0
  · subst h0
    simp [Rd, aRead]
  obtain ⟨b', o', cs, r, h1, h2, h3, h4⟩ := rd_all h (by omega)
  simp only [Value.slice.injEq, Option.some.injEq, Addr.mk.injEq] at h1
  obtain ⟨⟨rfl, rfl, _⟩, _⟩ := h1
  have hke : k * e + m * e ≤ xs.length * e := by rw [← Nat.add_mul]; exact Nat.mul_le_mul_right _ hm
  refine Rd.of_row he h2 (by rw [hl]; omega) ?_ hl.symm
  rw [hl]
  have e1 : xs.flatMap enc = (xs.take k).flatMap enc ++ (((xs.drop k).take m).flatMap enc ++ ((xs.drop k).drop m).flatMap enc) := by
    rw [← List.flatMap_append, List.take_append_drop, ← List.flatMap_append, List.take_append_drop]
  have l1 : ((xs.take k).flatMap enc).length = k * e := by rw [flat_length he, List.length_take, Nat.min_eq_left (by omega)]
  have l2 : (((xs.drop k).take m).flatMap enc).length = m * e := by rw [flat_length he, hl]
  have e2 : ((xs.flatMap enc).drop (k * e)).take (m * e) = ((xs.drop k).take m).flatMap enc := by
    rw [e1, ← l1, List.drop_left, ← l2, List.take_left]
  rw [← e2, h4, List.drop_take, List.drop_drop, List.take_take, Nat.min_eq_left (by omega)]
theorem rd_read {α : Type} {enc : α → List Value} {e : Nat} {g : AMem} {v : Value} {xs : List α} (h : Rd g e enc v xs) : aRead g e v = some (xs.length, xs.flatMap enc) := h
set_option maxHeartbeats 2000000
/-- slices.Equal of words. -/
theorem slices_EqualW (va vb : Value) (xs ys : List (BitVec 64)) (g : AMem) (n : Nat) (hl : xs.length < 4611686018427387904) (hl' : ys.length < 4611686018427387904) (ha : rdW g va xs) (hb : rdW g vb ys) : FnC Try.prog f_slices_Equal_S_uint64_uint64 [va, vb] g n (fun _ => False) (.bool (decide (xs = ys))) g n := by
  refine fnC_of_rwp t_slices_Equal_S_uint64_uint64 hm rfl fun hdom => ?_
  obtain ⟨a, ea, hva⟩ := ha.form
  obtain ⟨b, eb, hvb⟩ := hb.form
  by_cases hne : xs.length = ys.length
  case neg =>
    simp (maxSteps := 1000000) (disch := first | assumption | omega | rfl | decide) [↓rules, rules, lit_u64, aEval_U, splice_nil, splice_zero, splice_step, gset_gset, Int.ofNat_inj, U_junk, U_cells, U_cellOk, ub_and, ub_or, ub_xor, ub_andNot, ub_add, ub_sub, ub_mul, ub_shl, ub_shr, ub_shl', ub_shr', ub_eql, ub_neq, ub_lss, ub_leq, ub_gtr, ub_geq, rc_slices_Equal_S_uint64_uint64, hva, hvb, tu_S_uint64, hne]
    refine done_q hdom (Kept.refl hdom) ?_ ?_; · rfl
    rw [show decide (xs = ys) = false by simp only [decide_eq_false_iff_not]; intro h; exact hne (by rw [h])]; rfl
  simp (maxSteps := 1000000) (disch := first | assumption | omega | rfl | decide) [↓rules, rules, lit_u64, aEval_U, splice_nil, splice_zero, splice_step, gset_gset, Int.ofNat_inj, U_junk, U_cells, U_cellOk, ub_and, ub_or, ub_xor, ub_andNot, ub_add, ub_sub, ub_mul, ub_shl, ub_shr, ub_shl', ub_shr', ub_eql, ub_neq, ub_lss, ub_leq, ub_gtr, ub_geq, rc_slices_Equal_S_uint64_uint64, hva, hvb, tu_S_uint64, hne]
  rw [← hvb, show Value.slice a ys.length ea = va by rw [hva, hne]]
  refine rwp_loop (fun k l g' n' => ∃ i, k = xs.length - i ∧ i ≤ xs.length ∧ g' = g ∧ n' = n ∧ xs.take i = ys.take i ∧ l = [(0, va), (1, vb), (12, .int .i64 ys.length), (13, .int .i64 i)]) ?_ (k := xs.length) ?_
  · rintro k l g' n' ⟨i, rfl, hi, rfl, rfl, he, rfl⟩
    simp (maxSteps := 1000000) (disch := first | assumption | omega | rfl | decide) [↓rules, rules, lit_u64, aEval_U, splice_nil, splice_zero, splice_step, gset_gset, Int.ofNat_inj, U_junk, U_cells, U_cellOk, ub_and, ub_or, ub_xor, ub_andNot, ub_add, ub_sub, ub_mul, ub_shl, ub_shr, ub_shl', ub_shr', ub_eql, ub_neq, ub_lss, ub_leq, ub_gtr, ub_geq, rc_slices_Equal_S_uint64_uint64l0, hva, tu_S_uint64]
    refine rcond_dec (fun hlt => ?_) (fun hlt => ?_)
    · have hlt2 : i < ys.length := by omega
      have hlt1 : i < xs.length := by omega
      obtain ⟨b1, o1, h1, _, h2⟩ := ha.one hlt1
      obtain ⟨b2, o2, h3, _, h4⟩ := hb.one hlt2
      have e1 := h2 g' (Ext.refl _) Try.prog _ ta_uint64
      have e2 := h4 g' (Ext.refl _) Try.prog _ ta_uint64
      rw [← hva]
      simp (maxSteps := 1000000) (disch := first | assumption | omega | rfl | decide) [↓rules, rules, lit_u64, aEval_U, splice_nil, splice_zero, splice_step, gset_gset, Int.ofNat_inj, U_junk, U_cells, U_cellOk, ub_and, ub_or, ub_xor, ub_andNot, ub_add, ub_sub, ub_mul, ub_shl, ub_shr, ub_shl', ub_shr', ub_eql, ub_neq, ub_lss, ub_leq, ub_gtr, ub_geq, h1, h3, tu_S_uint64, ts_uint64, e1, e2, hne, hlt2]
      have htake : ∀ (zs : List (BitVec 64)) (h : i < zs.length), zs.take (i + 1) = zs.take i ++ [zs[i]] := fun zs h => by rw [List.take_add_one, List.getElem?_eq_getElem h]; rfl
      refine rcond_bool (fun c => ?_) (fun c => ?_)
      · refine done_q hdom (Kept.refl hdom) ?_ ?_; · rfl
        have c : xs[i] ≠ ys[i] := by simpa using c
        rw [show decide (xs = ys) = false by simp only [decide_eq_false_iff_not]; intro h; subst h; exact c rfl]; rfl
      · have c : xs[i] = ys[i] := by simpa using c
        simp (maxSteps := 1000000) (disch := first | assumption | omega | rfl | decide) [↓rules, rules, lit_u64, aEval_U, splice_nil, splice_zero, splice_step, gset_gset, Int.ofNat_inj, U_junk, U_cells, U_cellOk, ub_and, ub_or, ub_xor, ub_andNot, ub_add, ub_sub, ub_mul, ub_shl, ub_shr, ub_shl', ub_shr', ub_eql, ub_neq, ub_lss, ub_leq, ub_gtr, ub_geq, wrap_i64]
        refine ⟨ys.length - (i + 1), by omega, i + 1, rfl, by omega, ?_⟩
        refine ⟨by rw [htake xs hlt1, htake ys hlt2, he, c], ?_⟩
        simp
    · refine done_q hdom (Kept.refl hdom) ?_ ?_; · rfl
      have e1 : i = xs.length := by omega
      have e2 : i = ys.length := by omega
      rw [e1, List.take_length, ← e1, e2, List.take_length] at he
      rw [show decide (xs = ys) = true by simpa using he]; rfl
  · exact ⟨0, by simp, by simp, rfl, rfl, by simp, by rfl⟩
end Go.Proofs.Ytafpgojoemcgnaa.F11

namespace Go.Proofs.Ytafpgojoemcgnaa.F11
open Go Go.Proofs Go.Proofs.YtafpgojoemcgnaaAbs
set_option maxHeartbeats 4000000
set_option maxRecDepth 10000
/-- A thing. -/
structure Th where
  ty : Int
  bits : Int
  base : Int
  size : Int
  used : Int
  frm : Int
  badge : Int
  full : Bool
  word : BitVec 64
  d0 : BitVec 64
  d1 : BitVec 64
  d2 : BitVec 64
  d3 : BitVec 64
def cT (t : Th) : List Value := [.int .i64 t.ty, .int .i64 t.bits, .int .i64 t.base, .int .i64 t.size, .int .i64 t.used, .int .i64 t.frm, .int .i64 t.badge, .bool t.full, U t.word, U t.d0, U t.d1, U t.d2, U t.d3]
abbrev vT (t : Th) : Value := .agg #[.int .i64 t.ty, .int .i64 t.bits, .int .i64 t.base, .int .i64 t.size, .int .i64 t.used, .int .i64 t.frm, .int .i64 t.badge, .bool t.full, U t.word, U t.d0, U t.d1, U t.d2, U t.d3]
def sameT (a b : Th) : Bool := decide (a.ty = b.ty) && decide (a.bits = b.bits) && decide (a.base = b.base) && decide (a.size = b.size) && decide (a.used = b.used) && decide (a.frm = b.frm) && decide (a.badge = b.badge) && decide (a.full = b.full) && decide (a.word = b.word) && decide (a.d0 = b.d0) && decide (a.d1 = b.d1) && decide (a.d2 = b.d2) && decide (a.d3 = b.d3)
theorem sameT_iff {a b : Th} : sameT a b = true ↔ a = b := by
  cases a; cases b; simp [sameT, and_assoc]
def noT : Th := ⟨0, 0, 0, 0, 0, 0, 0, false, 0#64, 0#64, 0#64, 0#64, 0#64⟩
def ownT (t : Th) : Th :=
  if t.ty = 1 then { noT with ty := t.ty, size := t.size, used := t.used }
  else if t.ty = 2 then { noT with ty := t.ty, bits := t.bits, base := t.base }
  else if t.ty = 3 then (if t.full = true then { noT with ty := t.ty, full := true, word := t.word, badge := t.badge, frm := t.frm } else { noT with ty := t.ty })
  else if t.ty = 4 then { noT with ty := t.ty, word := t.word }
  else if t.ty = 5 then { noT with ty := t.ty, d0 := t.d0, d1 := t.d1, d2 := t.d2, d3 := t.d3 }
  else noT
def inI (n low high : Int) : Bool := decide (low ≤ n) && decide (n ≤ high)
theorem thing_in (n low high : Int) (g : AMem) (m : Nat) : FnC Try.prog f_thing_in [.int .i64 n, .int .i64 low, .int .i64 high] g m (fun _ => False) (.bool (inI n low high)) g m := by
  refine fnC_of_rwp t_thing_in hm rfl fun hdom => ?_
  by_cases c : low ≤ n
  · rw [show inI n low high = decide (n ≤ high) by simp [inI, c]]
    simp (maxSteps := 1000000) (disch := first | assumption | omega | rfl | decide) [↓rules, rules, lit_u64, aEval_U, splice_nil, splice_zero, splice_step, gset_gset, Int.ofNat_inj, U_junk, U_cells, U_cellOk, ub_and, ub_or, ub_xor, ub_andNot, ub_add, ub_sub, ub_mul, ub_shl, ub_shr, ub_shl', ub_shr', ub_eql, ub_neq, ub_lss, ub_leq, ub_gtr, ub_geq, rc_thing_in, c]
    exact done_q hdom (Kept.refl hdom) rfl rfl
  · rw [show inI n low high = false by simp [inI, c]]
    simp (maxSteps := 1000000) (disch := first | assumption | omega | rfl | decide) [↓rules, rules, lit_u64, aEval_U, splice_nil, splice_zero, splice_step, gset_gset, Int.ofNat_inj, U_junk, U_cells, U_cellOk, ub_and, ub_or, ub_xor, ub_andNot, ub_add, ub_sub, ub_mul, ub_shl, ub_shr, ub_shl', ub_shr', ub_eql, ub_neq, ub_lss, ub_leq, ub_gtr, ub_geq, rc_thing_in, c]
    exact done_q hdom (Kept.refl hdom) rfl rfl
theorem thing_own (t : Th) (g : AMem) (n : Nat) : FnC Try.prog f_thing_own [vT t] g n (fun _ => False) (vT (ownT t)) g n := by
  refine fnC_of_rwp t_thing_own hm rfl fun hdom => ?_
  obtain ⟨ty, bits, base, size, used, frm, badge, full, word, d0, d1, d2, d3⟩ := t
  by_cases c1 : ty = 1
  · subst c1
    simp (maxSteps := 1000000) (disch := first | assumption | omega | rfl | decide | simp only [fitsR, Bool.and_self]) [↓rules, rules, ↓rulesDp, rulesDq, lit_u64, Int.ofNat_inj, rc_thing_own, q_int, q_bool, q_uint64, q_A4_uint64, q_thing_Thing, do_buildS tz_thing_Thing tp_thing_Thing]
    refine done_q hdom (((Kept.refl hdom).new _).new _) rfl ?_
    simp (maxSteps := 1000000) (disch := first | assumption | omega | rfl | decide | simp only [fitsR, Bool.and_self]) [↓rules, rules, ↓rulesDp, rulesDq, lit_u64, Int.ofNat_inj, aResults, aRes, q_int, q_bool, q_uint64, q_A4_uint64, q_thing_Thing, ownT, noT]
  by_cases c2 : ty = 2
  · subst c2
    simp (maxSteps := 1000000) (disch := first | assumption | omega | rfl | decide | simp only [fitsR, Bool.and_self]) [↓rules, rules, ↓rulesDp, rulesDq, lit_u64, Int.ofNat_inj, rc_thing_own, q_int, q_bool, q_uint64, q_A4_uint64, q_thing_Thing, do_buildS tz_thing_Thing tp_thing_Thing]
    refine done_q hdom (((Kept.refl hdom).new _).new _) rfl ?_
    simp (maxSteps := 1000000) (disch := first | assumption | omega | rfl | decide | simp only [fitsR, Bool.and_self]) [↓rules, rules, ↓rulesDp, rulesDq, lit_u64, Int.ofNat_inj, aResults, aRes, q_int, q_bool, q_uint64, q_A4_uint64, q_thing_Thing, ownT, noT]
  by_cases c3 : ty = 3
  · subst c3
    cases full
    · simp (maxSteps := 1000000) (disch := first | assumption | omega | rfl | decide | simp only [fitsR, Bool.and_self]) [↓rules, rules, ↓rulesDp, rulesDq, lit_u64, Int.ofNat_inj, rc_thing_own, q_int, q_bool, q_uint64, q_A4_uint64, q_thing_Thing, do_buildS tz_thing_Thing tp_thing_Thing]
      refine done_q hdom (((Kept.refl hdom).new _).new _) rfl ?_
      simp (maxSteps := 1000000) (disch := first | assumption | omega | rfl | decide | simp only [fitsR, Bool.and_self]) [↓rules, rules, ↓rulesDp, rulesDq, lit_u64, Int.ofNat_inj, aResults, aRes, q_int, q_bool, q_uint64, q_A4_uint64, q_thing_Thing, ownT, noT]
    · simp (maxSteps := 1000000) (disch := first | assumption | omega | rfl | decide | simp only [fitsR, Bool.and_self]) [↓rules, rules, ↓rulesDp, rulesDq, lit_u64, Int.ofNat_inj, rc_thing_own, q_int, q_bool, q_uint64, q_A4_uint64, q_thing_Thing, do_buildS tz_thing_Thing tp_thing_Thing]
      refine done_q hdom (((Kept.refl hdom).new _).new _) rfl ?_
      simp (maxSteps := 1000000) (disch := first | assumption | omega | rfl | decide | simp only [fitsR, Bool.and_self]) [↓rules, rules, ↓rulesDp, rulesDq, lit_u64, Int.ofNat_inj, aResults, aRes, q_int, q_bool, q_uint64, q_A4_uint64, q_thing_Thing, ownT, noT]
  by_cases c4 : ty = 4
  · subst c4
    simp (maxSteps := 1000000) (disch := first | assumption | omega | rfl | decide | simp only [fitsR, Bool.and_self]) [↓rules, rules, ↓rulesDp, rulesDq, lit_u64, Int.ofNat_inj, rc_thing_own, q_int, q_bool, q_uint64, q_A4_uint64, q_thing_Thing, do_buildS tz_thing_Thing tp_thing_Thing]
    refine done_q hdom (((Kept.refl hdom).new _).new _) rfl ?_
    simp (maxSteps := 1000000) (disch := first | assumption | omega | rfl | decide | simp only [fitsR, Bool.and_self]) [↓rules, rules, ↓rulesDp, rulesDq, lit_u64, Int.ofNat_inj, aResults, aRes, q_int, q_bool, q_uint64, q_A4_uint64, q_thing_Thing, ownT, noT]
  by_cases c5 : ty = 5
  · subst c5
    simp (maxSteps := 1000000) (disch := first | assumption | omega | rfl | decide | simp only [fitsR, Bool.and_self]) [↓rules, rules, ↓rulesDp, rulesDq, lit_u64, Int.ofNat_inj, rc_thing_own, q_int, q_bool, q_uint64, q_A4_uint64, q_thing_Thing, do_buildS tz_thing_Thing tp_thing_Thing]
    refine done_q hdom (((Kept.refl hdom).new _).new _) rfl ?_
    simp (maxSteps := 1000000) (disch := first | assumption | omega | rfl | decide | simp only [fitsR, Bool.and_self]) [↓rules, rules, ↓rulesDp, rulesDq, lit_u64, Int.ofNat_inj, aResults, aRes, q_int, q_bool, q_uint64, q_A4_uint64, q_thing_Thing, ownT, noT]
  simp (maxSteps := 1000000) (disch := first | assumption | omega | rfl | decide | simp only [fitsR, Bool.and_self]) [↓rules, rules, ↓rulesDp, rulesDq, lit_u64, Int.ofNat_inj, rc_thing_own, q_int, q_bool, q_uint64, q_A4_uint64, q_thing_Thing, do_buildS tz_thing_Thing tp_thing_Thing, c1, c2, c3, c4, c5]
  refine done_q hdom (((Kept.refl hdom).new _).new _) rfl ?_
  simp (maxSteps := 1000000) (disch := first | assumption | omega | rfl | decide | simp only [fitsR, Bool.and_self]) [↓rules, rules, ↓rulesDp, rulesDq, lit_u64, Int.ofNat_inj, aResults, aRes, q_int, q_bool, q_uint64, q_A4_uint64, q_thing_Thing, ownT, noT, c1, c2, c3, c4, c5]
def goodT (t : Th) : Bool := sameT (ownT t) t && (
  if t.ty = 1 then inI t.size 1 4096 && inI t.used 0 t.size
  else if t.ty = 2 then inI t.bits 1 4 && inI t.base 0 (96 - 2 ^ t.bits.toNat)
  else if t.ty = 3 then inI t.badge 0 65535 && inI t.frm 0 96
  else true)
theorem sameT_cells (a b : Th) : cellsEq (cT a) (cT b) = sameT a b := by
  simp only [cT, cellsEq_cons, cellsEq_nil, cellEq_int, cellEq_bool, cellEq_U, sameT, Bool.and_true, Bool.and_assoc]
theorem bne_vT (xo yo : Operand) (a b : Th) : aBin Try.prog .neq T_thing_Thing xo yo (vT a) (vT b) = some (.bool (!sameT a b)) := by
  rw [← sameT_cells]; exact bin_neq_agg te_thing_Thing ta_thing_Thing (xs := cT a) (ys := cT b) rfl rfl
theorem beq_vT (xo yo : Operand) (a b : Th) : aBin Try.prog .eql T_thing_Thing xo yo (vT a) (vT b) = some (.bool (sameT a b)) := by
  rw [← sameT_cells]; exact bin_eql_agg te_thing_Thing ta_thing_Thing (xs := cT a) (ys := cT b) rfl rfl
theorem thing_Good (t : Th) (g : AMem) (n : Nat) : FnC Try.prog f_thing_Good [vT t] g n (fun _ => False) (.bool (goodT t)) g n := by
  refine fnC_of_rwp t_thing_Good hm rfl fun hdom => ?_
  have kn := (Kept.refl hdom).new (.row (cT t) true)
  simp (maxSteps := 1000000) (disch := first | assumption | omega | rfl | decide | simp only [fitsR, Bool.and_self]) [↓rules, rules, ↓rulesDp, rulesDq, lit_u64, Int.ofNat_inj, rc_thing_Good, q_int, q_bool, q_uint64, q_A4_uint64, q_thing_Thing]
  refine rcall_quiet rfl (thing_own t _ _) ?_
  simp (maxSteps := 1000000) (disch := first | assumption | omega | rfl | decide | simp only [fitsR, Bool.and_self]) [↓rules, rules, ↓rulesDp, rulesDq, lit_u64, Int.ofNat_inj, q_int, q_bool, q_uint64, q_A4_uint64, q_thing_Thing, bne_vT]
  cases c : sameT (ownT t) t
  · simp (maxSteps := 1000000) (disch := first | assumption | omega | rfl | decide | simp only [fitsR, Bool.and_self]) [↓rules, rules, ↓rulesDp, rulesDq, lit_u64, Int.ofNat_inj]
    refine done_q hdom ((Kept.refl hdom).new _) rfl ?_
    rw [goodT, c]; rfl
  simp (maxSteps := 1000000) (disch := first | assumption | omega | rfl | decide | simp only [fitsR, Bool.and_self]) [↓rules, rules, ↓rulesDp, rulesDq, lit_u64, Int.ofNat_inj, q_int, q_bool, q_uint64, q_A4_uint64, q_thing_Thing]
  by_cases c1 : t.ty = 1
  · simp (maxSteps := 1000000) (disch := first | assumption | omega | rfl | decide | simp only [fitsR, Bool.and_self]) [↓rules, rules, ↓rulesDp, rulesDq, lit_u64, Int.ofNat_inj, q_int, q_bool, q_uint64, q_A4_uint64, q_thing_Thing, c1]
    refine rcall_quiet rfl (thing_in _ _ _ _ _) ?_
    cases c2 : inI t.size 1 4096
    · simp (maxSteps := 1000000) (disch := first | assumption | omega | rfl | decide | simp only [fitsR, Bool.and_self]) [↓rules, rules, ↓rulesDp, rulesDq, lit_u64, Int.ofNat_inj, c2]
      refine done_q hdom ((Kept.refl hdom).new _) rfl ?_
      rw [goodT, c, if_pos c1, c2]; rfl
    simp (maxSteps := 1000000) (disch := first | assumption | omega | rfl | decide | simp only [fitsR, Bool.and_self]) [↓rules, rules, ↓rulesDp, rulesDq, lit_u64, Int.ofNat_inj, q_int, q_bool, q_uint64, q_A4_uint64, q_thing_Thing]
    refine rcall_quiet rfl (thing_in _ _ _ _ _) ?_
    simp (maxSteps := 1000000) (disch := first | assumption | omega | rfl | decide | simp only [fitsR, Bool.and_self]) [↓rules, rules, ↓rulesDp, rulesDq, lit_u64, Int.ofNat_inj]
    refine done_q hdom ((Kept.refl hdom).new _) rfl ?_
    rw [goodT, c, if_pos c1, c2]; rfl
  by_cases c2 : t.ty = 2
  · simp (maxSteps := 1000000) (disch := first | assumption | omega | rfl | decide | simp only [fitsR, Bool.and_self]) [↓rules, rules, ↓rulesDp, rulesDq, lit_u64, Int.ofNat_inj, q_int, q_bool, q_uint64, q_A4_uint64, q_thing_Thing, c2]
    refine rcall_quiet rfl (thing_in _ _ _ _ _) ?_
    cases c3 : inI t.bits 1 4
    · simp (maxSteps := 1000000) (disch := first | assumption | omega | rfl | decide | simp only [fitsR, Bool.and_self]) [↓rules, rules, ↓rulesDp, rulesDq, lit_u64, Int.ofNat_inj, c3]
      refine done_q hdom ((Kept.refl hdom).new _) rfl ?_
      rw [goodT, c, if_neg c1, if_pos c2, c3]; rfl
    have c4 : 1 ≤ t.bits ∧ t.bits ≤ 4 := by simpa [inI] using c3
    have c5 : t.bits = 1 ∨ t.bits = 2 ∨ t.bits = 3 ∨ t.bits = 4 := by omega
    have e1 : aBin Try.prog .shl T_int (.const (.int .i64 1)) (.tmp 30) (.int .i64 1) (.int .i64 t.bits) = some (.int .i64 (2 ^ t.bits.toNat)) := by
      rw [bin_shl (by omega)]
      rcases c5 with e | e | e | e <;> rw [e] <;> rfl
    have e2 : IntKind.i64.wrap (96 - 2 ^ t.bits.toNat) = 96 - 2 ^ t.bits.toNat := by
      rcases c5 with e | e | e | e <;> rw [e] <;> rfl
    simp (maxSteps := 1000000) (disch := first | assumption | omega | rfl | decide | simp only [fitsR, Bool.and_self]) [↓rules, rules, ↓rulesDp, rulesDq, lit_u64, Int.ofNat_inj, q_int, q_bool, q_uint64, q_A4_uint64, q_thing_Thing, e1, e2]
    refine rcall_quiet rfl (thing_in _ _ _ _ _) ?_
    simp (maxSteps := 1000000) (disch := first | assumption | omega | rfl | decide | simp only [fitsR, Bool.and_self]) [↓rules, rules, ↓rulesDp, rulesDq, lit_u64, Int.ofNat_inj]
    refine done_q hdom ((Kept.refl hdom).new _) rfl ?_
    rw [goodT, c, if_neg c1, if_pos c2, c3]; rfl
  by_cases c3 : t.ty = 3
  · simp (maxSteps := 1000000) (disch := first | assumption | omega | rfl | decide | simp only [fitsR, Bool.and_self]) [↓rules, rules, ↓rulesDp, rulesDq, lit_u64, Int.ofNat_inj, q_int, q_bool, q_uint64, q_A4_uint64, q_thing_Thing, c3]
    refine rcall_quiet rfl (thing_in _ _ _ _ _) ?_
    cases c4 : inI t.badge 0 65535
    · simp (maxSteps := 1000000) (disch := first | assumption | omega | rfl | decide | simp only [fitsR, Bool.and_self]) [↓rules, rules, ↓rulesDp, rulesDq, lit_u64, Int.ofNat_inj, c4]
      refine done_q hdom ((Kept.refl hdom).new _) rfl ?_
      rw [goodT, c, if_neg c1, if_neg c2, if_pos c3, c4]; rfl
    simp (maxSteps := 1000000) (disch := first | assumption | omega | rfl | decide | simp only [fitsR, Bool.and_self]) [↓rules, rules, ↓rulesDp, rulesDq, lit_u64, Int.ofNat_inj, q_int, q_bool, q_uint64, q_A4_uint64, q_thing_Thing]
    refine rcall_quiet rfl (thing_in _ _ _ _ _) ?_
    simp (maxSteps := 1000000) (disch := first | assumption | omega | rfl | decide | simp only [fitsR, Bool.and_self]) [↓rules, rules, ↓rulesDp, rulesDq, lit_u64, Int.ofNat_inj]
    refine done_q hdom ((Kept.refl hdom).new _) rfl ?_
    rw [goodT, c, if_neg c1, if_neg c2, if_pos c3, c4]; rfl
  simp (maxSteps := 1000000) (disch := first | assumption | omega | rfl | decide | simp only [fitsR, Bool.and_self]) [↓rules, rules, ↓rulesDp, rulesDq, lit_u64, Int.ofNat_inj, q_int, q_bool, q_uint64, q_A4_uint64, q_thing_Thing, c1, c2, c3]
  refine done_q hdom ((Kept.refl hdom).new _) rfl ?_
  rw [goodT, c, if_neg c1, if_neg c2, if_neg c3]; rfl
end Go.Proofs.Ytafpgojoemcgnaa.F11

namespace Go.Proofs.Ytafpgojoemcgnaa.F11
open Go Go.Proofs Go.Proofs.YtafpgojoemcgnaaAbs
set_option maxHeartbeats 4000000
set_option maxRecDepth 100000
/-! ### Fields as numbers -/
theorem put_step {w x : BitVec 64} {p q : Nat} (hw : w.toNat < 2 ^ p) (hx : x.toNat < 2 ^ q) (hpq : p + q ≤ 64) : (w ||| x <<< p).toNat = w.toNat + x.toNat * 2 ^ p ∧ (w ||| x <<< p).toNat < 2 ^ (p + q) := by
  have h64 : (2 : Nat) ^ (p + q) ≤ 2 ^ 64 := Nat.pow_le_pow_right (by decide) hpq
  have e : x.toNat * 2 ^ p + w.toNat < 2 ^ (p + q) := by
    rw [Nat.add_comm p q, Nat.pow_add]
    have : (x.toNat + 1) * 2 ^ p ≤ 2 ^ q * 2 ^ p := Nat.mul_le_mul_right _ hx
    rw [Nat.succ_mul] at this
    omega
  have e1 : (x <<< p).toNat = x.toNat * 2 ^ p := by
    rw [BitVec.toNat_shiftLeft, Nat.shiftLeft_eq, Nat.mod_eq_of_lt (by omega)]
  have e2 : (w ||| x <<< p).toNat = w.toNat + x.toNat * 2 ^ p := by
    rw [BitVec.toNat_or, e1, Nat.or_comm, ← Nat.shiftLeft_eq, ← Nat.shiftLeft_add_eq_or_of_lt hw, Nat.shiftLeft_eq]; omega
  exact ⟨e2, by rw [e2]; omega⟩
theorem M_high (p q : Nat) (hpq : p + q ≤ 64) : (M p q >>> p).toNat = 2 ^ q - 1 := by
  have e : M p q >>> p = (1#64 <<< q) - 1#64 := by
    apply BitVec.eq_of_getLsbD_eq
    intro i hi
    rw [BitVec.getLsbD_ushiftRight, ones_bit q i (by omega) hi]
    by_cases h : p + i < 64
    · rw [M_bit p q (by omega) (by omega) (by omega) _ h]
      simp
    · rw [BitVec.getLsbD_of_ge _ _ (by omega)]
      symm; simp; omega
  rw [e, BitVec.toNat_sub, BitVec.toNat_shiftLeft, Nat.shiftLeft_eq]
  by_cases h : q = 64
  · subst h; decide
  · have h1 : (2 : Nat) ^ q < 2 ^ 64 := Nat.pow_lt_pow_right (by decide) (by omega)
    have h2 : 0 < (2 : Nat) ^ q := Nat.pow_pos (by decide)
    simp only [BitVec.toNat_ofNat]
    have e1 : 1 % 2 ^ 64 * 2 ^ q % 2 ^ 64 = 2 ^ q := by rw [Nat.mod_eq_of_lt (a := 1) (by decide), Nat.one_mul, Nat.mod_eq_of_lt h1]
    rw [e1]; omega
theorem putF_ok {p q : Nat} {fs : List (Int × Int)} {x : BitVec 64} {xs : List (BitVec 64)} {w : BitVec 64} (hx : x.toNat < 2 ^ q) (hpq : p + q ≤ 64) : putF (((p : Int), (q : Int)) :: fs) (x :: xs) w = putF fs xs (w ||| x <<< p) := by
  rw [putF, if_neg]
  · rfl
  · simp only [Int.toNat_natCast]
    rw [BitVec.lt_def, M_high p q hpq]; omega
theorem getF_nat (w : BitVec 64) (p q : Nat) (hpq : p + q ≤ 64) : (getF w ((p : Int), (q : Int))).toNat = w.toNat / 2 ^ p % 2 ^ q := by
  have e : getF w ((p : Int), (q : Int)) = (w >>> p) &&& ((1#64 <<< q) - 1#64) := by
    unfold getF
    apply BitVec.eq_of_getLsbD_eq
    intro i hi
    simp only [Int.toNat_natCast]
    rw [BitVec.getLsbD_ushiftRight, BitVec.getLsbD_and, BitVec.getLsbD_and, BitVec.getLsbD_ushiftRight, ones_bit q i (by omega) hi]
    by_cases h : p + i < 64
    · rw [M_bit p q (by omega) (by omega) (by omega) _ h]
      simp
    · rw [BitVec.getLsbD_of_ge _ _ (by omega)]
      simp
  have e1 : ((1#64 <<< q) - 1#64).toNat = 2 ^ q - 1 := by
    have := M_high 0 q (by omega)
    simpa [M] using this
  rw [e, BitVec.toNat_and, BitVec.toNat_ushiftRight, e1, Nat.and_two_pow_sub_one_eq_mod, Nat.shiftRight_eq_div_pow]
def bytesF : List (Int × Int) := [(0, 8), (8, 8), (16, 8), (24, 8), (32, 8)]
def pairsF : List (Int × Int) := [(0, 16), (16, 16), (32, 16)]
theorem good_bytes : goodF bytesF = true := by decide +kernel
theorem good_pairs : goodF pairsF = true := by decide +kernel
theorem mv1_flat (n : Nat) {v : Value} (h : flatV v = true) : mv1 n v = v := by
  unfold mv1
  split
  · cases h
  · cases h
  · cases h
  · rfl
noncomputable def runOf (f : FuncId) (k d : Nat) : Option XR := xfn Try.prog tab k d f [] (fun _ => none) 0
theorem fields_run {f : FuncId} {k d b m : Nat} {fs : List (Int × Int)} (h : (runOf f k d).isSome = true)
    (hv : ((runOf f k d).map (·.v)) = some (.slice (some ⟨b, 0, none⟩) fs.length 2)) (hg : ((runOf f k d).bind fun r => r.g b) = some (.row (fs.flatMap encF) true))
    (hall : ((runOf f k d).map fun r => (List.range r.n).all (fun i => match r.g i with | some o => okMvO o | none => true)) = some true) (n : Nat) :
    FnS Try.prog f [] (fun _ => none) n (fun _ => False) fun v g' n' => rdF g' v fs ∧ Kept (fun _ => none) n g' n' := by
  cases hr : runOf f k d with
  | none => rw [hr] at h; cases h
  | some r =>
    rw [hr] at hv hg hall
    simp only [Option.map_some, Option.some.injEq, Option.bind_some] at hv hg hall
    obtain ⟨v, g', n', h1, rfl, rfl, rfl, h5⟩ := FnS.moved (xfn_ok hm tabOk k d) hr rfl (by rw [hv]; rfl) hall n
    refine ⟨_, _, _, h1, ?_, h5⟩
    rw [hv]
    show Rd _ 2 encF (.slice (some ⟨n + b, 0, none⟩) fs.length 2) fs
    refine Rd.of_row (e := 2) (enc := encF) (fun _ => rfl) (cs := fs.flatMap encF) (rw_ := true) ?_ ?_ ?_ rfl
    · rw [mvG_at, hg]
      simp only [Option.map_some, mvO, Option.some.injEq, AObj.row.injEq, and_true]
      have : ∀ l : List Value, l.all flatV = true → l.map (mv1 n) = l := by
        intro l
        induction l with
        | nil => intro _; rfl
        | cons x l ih =>
          intro h
          simp only [List.all_cons, Bool.and_eq_true] at h
          rw [List.map_cons, ih h.2]
          congr 1
          exact mv1_flat n h.1
      refine this _ ?_
      rw [List.all_eq_true]
      intro x hx
      rw [List.mem_flatMap] at hx
      obtain ⟨f, _, hx⟩ := hx
      simp only [encF, List.mem_cons, List.not_mem_nil, or_false] at hx
      rcases hx with rfl | rfl <;> rfl
    · simp [flat_length (enc := encF) (e := 2) (fun _ => rfl)]
    · simp [flat_length (enc := encF) (e := 2) (fun _ => rfl), List.take_of_length_le]
theorem thing_bytes (n : Nat) : FnS Try.prog f_thing_bytes [] (fun _ => none) n (fun _ => False) fun v g' n' => rdF g' v bytesF ∧ Kept (fun _ => none) n g' n' :=
  fields_run (k := 10) (d := 3) (b := 9) (m := 10) (by kernel_rfl) (by kernel_rfl) (by kernel_rfl) (by kernel_rfl) n
theorem thing_pairs (n : Nat) : FnS Try.prog f_thing_pairs [] (fun _ => none) n (fun _ => False) fun v g' n' => rdF g' v pairsF ∧ Kept (fun _ => none) n g' n' :=
  fields_run (k := 10) (d := 3) (b := 0) (m := 1) (by kernel_rfl) (by kernel_rfl) (by kernel_rfl) (by kernel_rfl) n
/-! ### A thing's words -/
def fullI (t : Th) : Int := if t.full = true then 1 else 0
def numA (t : Th) : Int := t.ty + t.bits * 256 + t.base * 65536 + fullI t * 16777216 + t.frm * 4294967296
def numB (t : Th) : Int := t.size + t.used * 65536 + t.badge * 4294967296
def wordsT (t : Th) : List (BitVec 64) := [BitVec.ofInt 64 (numA t), BitVec.ofInt 64 (numB t), t.word, t.d0, t.d1, t.d2, t.d3, 0#64]
def putT (t : Th) : List (BitVec 64) := if goodT t = true then wordsT t else []
structure RangeT (t : Th) : Prop where
  ty : 0 ≤ t.ty ∧ t.ty ≤ 5
  bits : 0 ≤ t.bits ∧ t.bits ≤ 4
  base : 0 ≤ t.base ∧ t.base ≤ 94
  size : 0 ≤ t.size ∧ t.size ≤ 4096
  used : 0 ≤ t.used ∧ t.used ≤ 4096
  frm : 0 ≤ t.frm ∧ t.frm ≤ 96
  badge : 0 ≤ t.badge ∧ t.badge ≤ 65535
theorem goodT_range {t : Th} (h : goodT t = true) : RangeT t := by
  unfold goodT at h
  simp only [Bool.and_eq_true] at h
  obtain ⟨h1, h2⟩ := h
  rw [sameT_iff] at h1
  have e1 := congrArg Th.bits h1
  have e2 := congrArg Th.base h1
  have e3 := congrArg Th.size h1
  have e4 := congrArg Th.used h1
  have e5 := congrArg Th.frm h1
  have e6 := congrArg Th.badge h1
  have e7 := congrArg Th.ty h1
  clear h1
  by_cases c1 : t.ty = 1
  · rw [if_pos c1] at h2
    simp [ownT, c1, noT] at e1 e2 e3 e4 e5 e6 e7
    simp only [inI, Bool.and_eq_true, decide_eq_true_eq] at h2
    constructor <;> omega
  by_cases c2 : t.ty = 2
  · rw [if_neg c1, if_pos c2] at h2
    simp [ownT, c1, c2, noT] at e1 e2 e3 e4 e5 e6 e7
    simp only [inI, Bool.and_eq_true, decide_eq_true_eq] at h2
    have h3 : (2 : Int) ≤ 2 ^ t.bits.toNat := by
      have : t.bits = 1 ∨ t.bits = 2 ∨ t.bits = 3 ∨ t.bits = 4 := by omega
      rcases this with e | e | e | e <;> rw [e] <;> decide
    constructor <;> omega
  by_cases c3 : t.ty = 3
  · rw [if_neg c1, if_neg c2, if_pos c3] at h2
    simp only [inI, Bool.and_eq_true, decide_eq_true_eq] at h2
    cases hf : t.full <;> simp [ownT, c1, c2, c3, hf, noT] at e1 e2 e3 e4 e5 e6 e7 <;> constructor <;> omega
  by_cases c4 : t.ty = 4
  · simp [ownT, c1, c2, c3, c4, noT] at e1 e2 e3 e4 e5 e6 e7
    constructor <;> omega
  by_cases c5 : t.ty = 5
  · simp [ownT, c1, c2, c3, c4, c5, noT] at e1 e2 e3 e4 e5 e6 e7
    constructor <;> omega
  simp [ownT, c1, c2, c3, c4, c5, noT] at e1 e2 e3 e4 e5 e6 e7
  constructor <;> omega
theorem ofInt_nat {v : Int} (h1 : 0 ≤ v) (h2 : v < 18446744073709551616) : (BitVec.ofInt 64 v).toNat = v.toNat := by
  rw [BitVec.toNat_ofInt]; omega
def fullW (t : Th) : BitVec 64 := if t.full = true then 1#64 else 0#64
theorem puts_A {t : Th} (h : RangeT t) : putsF bytesF [BitVec.ofInt 64 t.ty, BitVec.ofInt 64 t.bits, BitVec.ofInt 64 t.base, fullW t, BitVec.ofInt 64 t.frm] = (BitVec.ofInt 64 (numA t), true) := by
  obtain ⟨⟨a1, a2⟩, ⟨b1, b2⟩, ⟨c1, c2⟩, _, _, ⟨f1, f2⟩, _⟩ := h
  have ea := ofInt_nat a1 (by omega)
  have eb := ofInt_nat b1 (by omega)
  have ec := ofInt_nat c1 (by omega)
  have ef := ofInt_nat f1 (by omega)
  have eu : (fullW t).toNat = (fullI t).toNat := by unfold fullW fullI; split <;> rfl
  have hu : 0 ≤ fullI t ∧ fullI t ≤ 1 := by unfold fullI; split <;> omega
  obtain ⟨p1, q1⟩ := put_step (w := 0#64) (x := BitVec.ofInt 64 t.ty) (p := 0) (q := 8) (by decide) (by omega) (by decide)
  obtain ⟨p2, q2⟩ := put_step (x := BitVec.ofInt 64 t.bits) (p := 8) (q := 8) q1 (by omega) (by decide)
  obtain ⟨p3, q3⟩ := put_step (x := BitVec.ofInt 64 t.base) (p := 16) (q := 8) q2 (by omega) (by decide)
  obtain ⟨p4, q4⟩ := put_step (x := fullW t) (p := 24) (q := 8) q3 (by omega) (by decide)
  obtain ⟨p5, q5⟩ := put_step (x := BitVec.ofInt 64 t.frm) (p := 32) (q := 8) q4 (by omega) (by decide)
  rw [putsF, if_pos ⟨good_bytes, rfl⟩]
  refine (putF_ok (p := 0) (q := 8) (by omega) (by decide)).trans ?_
  refine (putF_ok (p := 8) (q := 8) (by omega) (by decide)).trans ?_
  refine (putF_ok (p := 16) (q := 8) (by omega) (by decide)).trans ?_
  refine (putF_ok (p := 24) (q := 8) (by omega) (by decide)).trans ?_
  refine (putF_ok (p := 32) (q := 8) (by omega) (by decide)).trans ?_
  show (_, true) = (_, true)
  congr 1
  apply BitVec.eq_of_toNat_eq
  have eN := ofInt_nat (v := numA t) (by unfold numA; omega) (by unfold numA; omega)
  rw [p5, p4, p3, p2, p1, eN]
  unfold numA
  simp only [BitVec.toNat_ofNat]
  omega
theorem puts_B {t : Th} (h : RangeT t) : putsF pairsF [BitVec.ofInt 64 t.size, BitVec.ofInt 64 t.used, BitVec.ofInt 64 t.badge] = (BitVec.ofInt 64 (numB t), true) := by
  obtain ⟨_, _, _, ⟨a1, a2⟩, ⟨b1, b2⟩, _, ⟨c1, c2⟩⟩ := h
  have ea := ofInt_nat a1 (by omega)
  have eb := ofInt_nat b1 (by omega)
  have ec := ofInt_nat c1 (by omega)
  obtain ⟨p1, q1⟩ := put_step (w := 0#64) (x := BitVec.ofInt 64 t.size) (p := 0) (q := 16) (by decide) (by omega) (by decide)
  obtain ⟨p2, q2⟩ := put_step (x := BitVec.ofInt 64 t.used) (p := 16) (q := 16) q1 (by omega) (by decide)
  obtain ⟨p3, q3⟩ := put_step (x := BitVec.ofInt 64 t.badge) (p := 32) (q := 16) q2 (by omega) (by decide)
  rw [putsF, if_pos ⟨good_pairs, rfl⟩]
  refine (putF_ok (p := 0) (q := 16) (by omega) (by decide)).trans ?_
  refine (putF_ok (p := 16) (q := 16) (by omega) (by decide)).trans ?_
  refine (putF_ok (p := 32) (q := 16) (by omega) (by decide)).trans ?_
  show (_, true) = (_, true)
  congr 1
  apply BitVec.eq_of_toNat_eq
  have eN := ofInt_nat (v := numB t) (by unfold numB; omega) (by unfold numB; omega)
  rw [p3, p2, p1, eN]
  unfold numB
  simp only [BitVec.toNat_ofNat]
  omega
theorem vT_load {g : AMem} {b : Nat} {t : Th} (h : g b = some (.row (cT t) true)) : g b = some (.row [.int .i64 t.ty, .int .i64 t.bits, .int .i64 t.base, .int .i64 t.size, .int .i64 t.used, .int .i64 t.frm, .int .i64 t.badge, .bool t.full, U t.word, U t.d0, U t.d1, U t.d2, U t.d3] true) := h
theorem rd_row {g : AMem} {b : Nat} {ws : List (BitVec 64)} {m : Nat} (h : g b = some (.row (ws.map U) true)) (hm : m = ws.length) : rdW g (.slice (some ⟨b, 0, none⟩) m 1) ws := by
  refine Rd.of_row (e := 1) (enc := fun w => [U w]) (fun _ => rfl) h (by simp) ?_ hm
  rw [flatMap_one, List.drop_zero, Nat.mul_one, List.take_of_length_le (by simp)]
theorem fo_bytes : ∀ f ∈ bytesF, fOk f := by
  intro f hf
  simp only [bytesF, List.mem_cons, List.not_mem_nil, or_false] at hf
  rcases hf with rfl | rfl | rfl | rfl | rfl <;> unfold fOk <;> decide
theorem fo_pairs : ∀ f ∈ pairsF, fOk f := by
  intro f hf
  simp only [pairsF, List.mem_cons, List.not_mem_nil, or_false] at hf
  rcases hf with rfl | rfl | rfl <;> unfold fOk <;> decide
theorem thing_Put (t : Th) (g : AMem) (n : Nat) (hdom : ∀ i, g i ≠ none → i < n) : FnS Try.prog f_thing_Put [vT t] g n (fun _ => False) fun v g' n' => rdW g' v (putT t) ∧ Kept g n g' n' := by
  refine fnS_of_rwp t_thing_Put hm rfl hdom ?_
  simp (maxSteps := 1000000) (disch := first | assumption | omega | rfl | decide | simp only [fitsR, Bool.and_self]) [↓rules, rules, ↓rulesDp, rulesDq, lit_u64, Int.ofNat_inj, rc_thing_Put, q_int, q_bool, q_uint64, q_A4_uint64, q_thing_Thing, q_S_uint64, q_S_tag_Field, q_tag_Field]
  refine rcall_quiet rfl (thing_Good t _ _) ?_
  cases c : goodT t
  · simp (maxSteps := 1000000) (disch := first | assumption | omega | rfl | decide | simp only [fitsR, Bool.and_self]) [↓rules, rules, ↓rulesDp, rulesDq, lit_u64, Int.ofNat_inj]
    refine sdone_ret rfl ⟨?_, (Kept.refl hdom).new _⟩
    rw [putT, c]; exact Rd.nil
  have hr := goodT_range c
  cases hf : t.full
  · simp (maxSteps := 1000000) (disch := first | assumption | omega | rfl | decide | simp only [fitsR, Bool.and_self]) [↓rules, rules, ↓rulesDp, rulesDq, lit_u64, Int.ofNat_inj, q_int, q_bool, q_uint64, q_A4_uint64, q_thing_Thing, q_S_uint64, q_S_tag_Field, q_tag_Field, hf]
    refine dcall_spec0 (Kept.dom ((Kept.refl hdom).new _)) (thing_bytes _) (fun _ _ _ h => h.2) rfl fun vb hb nb g1 ⟨p1, p2⟩ k2 x2 s2 => ?_
    have hb1 := k2.same n (by omega)
    rw [gset, if_pos rfl] at hb1
    have n1 := k2.le
    have hne : n ≠ nb := by omega
    simp (maxSteps := 1000000) (disch := first | assumption | omega | rfl | decide | simp only [fitsR, Bool.and_self]) [↓rules, rules, ↓rulesDp, rulesDq, lit_u64, Int.ofNat_inj, q_int, q_bool, q_uint64, q_A4_uint64, q_thing_Thing, q_S_uint64, q_S_tag_Field, q_tag_Field, hb1, conv_to_u64 tu_int tu_uint64]
    refine dcall_quiet (Kept.dom (k2.new _)) rfl (Put vb _ bytesF [BitVec.ofInt 64 t.ty, BitVec.ofInt 64 t.bits, BitVec.ofInt 64 t.base, 0#64, BitVec.ofInt 64 t.frm] _ _ (by decide) (by simp) fo_bytes ((p1.ext x2).ext (((Kept.refl k2.dom).new _).ext k2.dom)) (rd_row (if_pos rfl) rfl)) (by simp (maxSteps := 1000000) (disch := first | assumption | omega | rfl | decide | simp only [fitsR, Bool.and_self]) [↓rules, rules, ↓rulesDp, rulesDq, lit_u64, Int.ofNat_inj]) ?_
    have eA := puts_A hr
    rw [show fullW t = 0#64 by simp [fullW, hf]] at eA
    rw [eA]
    simp (maxSteps := 1000000) (disch := first | assumption | omega | rfl | decide | simp only [fitsR, Bool.and_self]) [↓rules, rules, ↓rulesDp, rulesDq, lit_u64, Int.ofNat_inj]
    refine dcall_spec0 (Kept.dom (k2.new _)) (thing_pairs _) (fun _ _ _ h => h.2) rfl fun vc hc nc g2 ⟨q1, q2⟩ k3 x3 s3 => ?_
    have hb2 := k3.same n (by omega)
    rw [gset, if_neg hne, hb1] at hb2
    have n2 := k3.le
    have hne2 : n ≠ nc := by omega
    simp (maxSteps := 1000000) (disch := first | assumption | omega | rfl | decide | simp only [fitsR, Bool.and_self]) [↓rules, rules, ↓rulesDp, rulesDq, lit_u64, Int.ofNat_inj, q_int, q_bool, q_uint64, q_A4_uint64, q_thing_Thing, q_S_uint64, q_S_tag_Field, q_tag_Field, hb2, conv_to_u64 tu_int tu_uint64]
    refine dcall_quiet (Kept.dom (k3.new _)) rfl (Put vc _ pairsF [BitVec.ofInt 64 t.size, BitVec.ofInt 64 t.used, BitVec.ofInt 64 t.badge] _ _ (by decide) (by simp) fo_pairs ((q1.ext x3).ext (((Kept.refl k3.dom).new _).ext k3.dom)) (rd_row (if_pos rfl) rfl)) (by simp (maxSteps := 1000000) (disch := first | assumption | omega | rfl | decide | simp only [fitsR, Bool.and_self]) [↓rules, rules, ↓rulesDp, rulesDq, lit_u64, Int.ofNat_inj]) ?_
    rw [puts_B hr]
    have n3 : n ≠ nc + 1 := by omega
    have n4 : n ≠ nc + 1 + 1 := by omega
    simp (maxSteps := 1000000) (disch := first | assumption | omega | rfl | decide | simp only [fitsR, Bool.and_self]) [↓rules, rules, ↓rulesDp, rulesDq, lit_u64, Int.ofNat_inj, q_int, q_bool, q_uint64, q_A4_uint64, q_thing_Thing, q_S_uint64, q_S_tag_Field, q_tag_Field, hb2]
    refine ⟨by omega, by omega, sdone_ret rfl ⟨?_, ?_⟩⟩
    · rw [putT, if_pos c]; exact rd_row (ws := wordsT t) (if_pos rfl) rfl
    · have kk := (((Kept.refl hdom).new _).trans (k2.new _)).trans k3
      repeat first | exact kk | refine Kept.new ?_ _ | refine Kept.drop ?_ (by omega) | refine Kept.put ?_ (by omega) (by omega) _ | refine Kept.skip ?_
  · simp (maxSteps := 1000000) (disch := first | assumption | omega | rfl | decide | simp only [fitsR, Bool.and_self]) [↓rules, rules, ↓rulesDp, rulesDq, lit_u64, Int.ofNat_inj, q_int, q_bool, q_uint64, q_A4_uint64, q_thing_Thing, q_S_uint64, q_S_tag_Field, q_tag_Field, hf]
    refine dcall_spec0 (Kept.dom ((Kept.refl hdom).new _)) (thing_bytes _) (fun _ _ _ h => h.2) rfl fun vb hb nb g1 ⟨p1, p2⟩ k2 x2 s2 => ?_
    have hb1 := k2.same n (by omega)
    rw [gset, if_pos rfl] at hb1
    have n1 := k2.le
    have hne : n ≠ nb := by omega
    simp (maxSteps := 1000000) (disch := first | assumption | omega | rfl | decide | simp only [fitsR, Bool.and_self]) [↓rules, rules, ↓rulesDp, rulesDq, lit_u64, Int.ofNat_inj, q_int, q_bool, q_uint64, q_A4_uint64, q_thing_Thing, q_S_uint64, q_S_tag_Field, q_tag_Field, hb1, conv_to_u64 tu_int tu_uint64]
    refine dcall_quiet (Kept.dom (k2.new _)) rfl (Put vb _ bytesF [BitVec.ofInt 64 t.ty, BitVec.ofInt 64 t.bits, BitVec.ofInt 64 t.base, 1#64, BitVec.ofInt 64 t.frm] _ _ (by decide) (by simp) fo_bytes ((p1.ext x2).ext (((Kept.refl k2.dom).new _).ext k2.dom)) (rd_row (if_pos rfl) rfl)) (by simp (maxSteps := 1000000) (disch := first | assumption | omega | rfl | decide | simp only [fitsR, Bool.and_self]) [↓rules, rules, ↓rulesDp, rulesDq, lit_u64, Int.ofNat_inj]) ?_
    have eA := puts_A hr
    rw [show fullW t = 1#64 by simp [fullW, hf]] at eA
    rw [eA]
    simp (maxSteps := 1000000) (disch := first | assumption | omega | rfl | decide | simp only [fitsR, Bool.and_self]) [↓rules, rules, ↓rulesDp, rulesDq, lit_u64, Int.ofNat_inj]
    refine dcall_spec0 (Kept.dom (k2.new _)) (thing_pairs _) (fun _ _ _ h => h.2) rfl fun vc hc nc g2 ⟨q1, q2⟩ k3 x3 s3 => ?_
    have hb2 := k3.same n (by omega)
    rw [gset, if_neg hne, hb1] at hb2
    have n2 := k3.le
    have hne2 : n ≠ nc := by omega
    simp (maxSteps := 1000000) (disch := first | assumption | omega | rfl | decide | simp only [fitsR, Bool.and_self]) [↓rules, rules, ↓rulesDp, rulesDq, lit_u64, Int.ofNat_inj, q_int, q_bool, q_uint64, q_A4_uint64, q_thing_Thing, q_S_uint64, q_S_tag_Field, q_tag_Field, hb2, conv_to_u64 tu_int tu_uint64]
    refine dcall_quiet (Kept.dom (k3.new _)) rfl (Put vc _ pairsF [BitVec.ofInt 64 t.size, BitVec.ofInt 64 t.used, BitVec.ofInt 64 t.badge] _ _ (by decide) (by simp) fo_pairs ((q1.ext x3).ext (((Kept.refl k3.dom).new _).ext k3.dom)) (rd_row (if_pos rfl) rfl)) (by simp (maxSteps := 1000000) (disch := first | assumption | omega | rfl | decide | simp only [fitsR, Bool.and_self]) [↓rules, rules, ↓rulesDp, rulesDq, lit_u64, Int.ofNat_inj]) ?_
    rw [puts_B hr]
    have n3 : n ≠ nc + 1 := by omega
    have n4 : n ≠ nc + 1 + 1 := by omega
    simp (maxSteps := 1000000) (disch := first | assumption | omega | rfl | decide | simp only [fitsR, Bool.and_self]) [↓rules, rules, ↓rulesDp, rulesDq, lit_u64, Int.ofNat_inj, q_int, q_bool, q_uint64, q_A4_uint64, q_thing_Thing, q_S_uint64, q_S_tag_Field, q_tag_Field, hb2]
    refine ⟨by omega, by omega, sdone_ret rfl ⟨?_, ?_⟩⟩
    · rw [putT, if_pos c]; exact rd_row (ws := wordsT t) (if_pos rfl) rfl
    · have kk := (((Kept.refl hdom).new _).trans (k2.new _)).trans k3
      repeat first | exact kk | refine Kept.new ?_ _ | refine Kept.drop ?_ (by omega) | refine Kept.put ?_ (by omega) (by omega) _ | refine Kept.skip ?_
end Go.Proofs.Ytafpgojoemcgnaa.F11

namespace Go.Proofs.Ytafpgojoemcgnaa.F11
open Go Go.Proofs Go.Proofs.YtafpgojoemcgnaaAbs
set_option maxHeartbeats 8000000
set_option maxRecDepth 100000
/-- Some bits of a word as a number. -/
def fld (w : BitVec 64) (p q : Nat) : Int := ((w.toNat / 2 ^ p % 2 ^ q : Nat) : Int)
def decT (a b c d e f g : BitVec 64) : Th := ⟨fld a 0 8, fld a 8 8, fld a 16 8, fld b 0 16, fld b 16 16, fld a 32 8, fld b 32 16, decide (fld a 24 8 = 1), c, d, e, f, g⟩
def getT : List (BitVec 64) → Th × Bool
  | [a, b, c, d, e, f, g, h] => if putT (decT a b c d e f g) = [a, b, c, d, e, f, g, h] then (decT a b c d e f g, true) else (noT, false)
  | _ => (noT, false)
theorem getT_len {l : List (BitVec 64)} (h : l.length ≠ 8) : getT l = (noT, false) := by
  unfold getT
  split
  · simp at h
  · rfl
theorem fld_wrap (w : BitVec 64) (p q : Nat) (hpq : p + q ≤ 64) (hq : q ≤ 32) : IntKind.i64.wrap (uI (getF w ((p : Int), (q : Int)))) = fld w p q := by
  have h : w.toNat / 2 ^ p % 2 ^ q < 4294967296 := Nat.lt_of_lt_of_le (Nat.mod_lt _ (Nat.pow_pos (by decide))) (Nat.le_trans (Nat.pow_le_pow_right (by decide) hq) (by decide))
  unfold uI fld
  rw [getF_nat w p q hpq, wrap_i64 (by omega) (by omega)]
theorem fld_one (w : BitVec 64) (p q : Nat) (hpq : p + q ≤ 64) : decide (getF w ((p : Int), (q : Int)) = 1#64) = decide (fld w p q = 1) := by
  rw [decide_eq_decide]
  unfold fld
  rw [← getF_nat w p q hpq]
  constructor
  · intro h; rw [h]; rfl
  · intro h; apply BitVec.eq_of_toNat_eq; simpa using (by omega : (getF w ((p : Int), (q : Int))).toNat = 1)
theorem list8 {α : Type} (l : List α) (h : l.length = 8) : ∃ a b c d e f g h, l = [a, b, c, d, e, f, g, h] := by
  match l, h with
  | [a, b, c, d, e, f, g, h], _ => exact ⟨a, b, c, d, e, f, g, h, rfl⟩
theorem decide_dec {α : Type} (x y : List (BitVec 64)) (a b : α) : (if x = y then a else b) = if decide (x = y) = true then a else b := by simp
theorem putT_len (t : Th) : (putT t).length ≤ 8 := by
  unfold putT; split <;> simp [wordsT]
theorem thing_Get (v : Value) (l : List (BitVec 64)) (g : AMem) (n : Nat) (hl : l.length < 4611686018427387904) (hv : rdW g v l) : FnC Try.prog f_thing_Get [v] g n (fun _ => False) (.tuple #[vT (getT l).1, .bool (getT l).2]) g n := by
  refine fnC_of_rwp t_thing_Get hm rfl fun hdom => ?_
  obtain ⟨a, e', hvf⟩ := hv.form
  by_cases c : l.length = 8
  case neg =>
    have c' : ¬ (l.length : Int) = 8 := by omega
    simp (maxSteps := 1000000) (disch := first | assumption | omega | rfl | decide | simp only [fitsR, Bool.and_self]) [↓rules, rules, ↓rulesDp, rulesDq, lit_u64, Int.ofNat_inj, rc_thing_Get, q_int, q_bool, q_uint64, q_A4_uint64, q_thing_Thing, q_S_uint64, q_S_tag_Field, q_tag_Field, hvf, c']
    refine done_q hdom ((Kept.refl hdom).new _) rfl ?_
    rw [getT_len c]
    simp (maxSteps := 1000000) (disch := first | assumption | omega | rfl | decide | simp only [fitsR, Bool.and_self]) [↓rules, rules, ↓rulesDp, rulesDq, lit_u64, Int.ofNat_inj, aResults, aRes, q_int, q_bool, q_uint64, q_A4_uint64, q_thing_Thing, q_S_uint64, q_S_tag_Field, q_tag_Field, noT]
  obtain ⟨x0, x1, x2, x3, x4, x5, x6, x7, rfl⟩ := list8 l c
  obtain ⟨b, o, cs, r, hvs, hbg, hel⟩ := rd_nths (f := U) hv (by simp)
  have hbn := hdom b (by rw [hbg]; simp)
  subst hvs
  have e0 := hel 0 (by simp); have e1 := hel 1 (by simp); have e2 := hel 2 (by simp)
  simp only [Nat.add_zero, List.getElem_cons_zero, List.getElem_cons_succ] at e0 e1 e2
  simp (maxSteps := 1000000) (disch := first | assumption | omega | rfl | decide | simp only [fitsR, Bool.and_self]) [↓rules, rules, ↓rulesDp, rulesDq, lit_u64, Int.ofNat_inj, rc_thing_Get, q_int, q_bool, q_uint64, q_A4_uint64, q_thing_Thing, q_S_uint64, q_S_tag_Field, q_tag_Field, hbg, e0, e1]
  have k1 : Kept g n (gset g n (some (.row (cT noT) true))) (n + 1) := (Kept.refl hdom).new _
  refine dcall_spec0 k1.dom (thing_bytes _) (fun _ _ _ h => h.2) rfl fun vb hb nb g1 ⟨p1, p2⟩ k2 xe2 s2 => ?_
  have n2 := k2.le
  have hb1 := k2.same b (by omega)
  rw [gset, if_neg (by omega), hbg] at hb1
  simp (maxSteps := 1000000) (disch := first | assumption | omega | rfl | decide | simp only [fitsR, Bool.and_self]) [↓rules, rules, ↓rulesDp, rulesDq, lit_u64, Int.ofNat_inj, q_int, q_bool, q_uint64, q_A4_uint64, q_thing_Thing, q_S_uint64, q_S_tag_Field, q_tag_Field, hb1, e1]
  refine dcall_spec k2.dom (Get x0 vb bytesF _ _ k2.dom (by decide) fo_bytes (p1.ext xe2)) (fun _ _ _ h => h.2) rfl (by simp (maxSteps := 1000000) (disch := first | assumption | omega | rfl | decide | simp only [fitsR, Bool.and_self]) [↓rules, rules, ↓rulesDp, rulesDq, lit_u64, Int.ofNat_inj]) fun va g2 n2 ⟨r2, k3⟩ => ?_
  have l3 := k3.le
  have hb2 := k3.same b (by omega)
  rw [hb1] at hb2
  simp (maxSteps := 1000000) (disch := first | assumption | omega | rfl | decide | simp only [fitsR, Bool.and_self]) [↓rules, rules, ↓rulesDp, rulesDq, lit_u64, Int.ofNat_inj, q_int, q_bool, q_uint64, q_A4_uint64, q_thing_Thing, q_S_uint64, q_S_tag_Field, q_tag_Field, hb2, e1]
  refine dcall_spec0 k3.dom (thing_pairs _) (fun _ _ _ h => h.2) rfl fun vc hc nc g3 ⟨p4, p5⟩ k4 xe4 s4 => ?_
  have l4 := k4.le
  have hb3 := k4.same b (by omega)
  rw [hb2] at hb3
  simp (maxSteps := 1000000) (disch := first | assumption | omega | rfl | decide | simp only [fitsR, Bool.and_self]) [↓rules, rules, ↓rulesDp, rulesDq, lit_u64, Int.ofNat_inj, q_int, q_bool, q_uint64, q_A4_uint64, q_thing_Thing, q_S_uint64, q_S_tag_Field, q_tag_Field, hb3, e1]
  refine dcall_spec k4.dom (Get x1 vc pairsF _ _ k4.dom (by decide) fo_pairs (p4.ext xe4)) (fun _ _ _ h => h.2) rfl (by simp (maxSteps := 1000000) (disch := first | assumption | omega | rfl | decide | simp only [fitsR, Bool.and_self]) [↓rules, rules, ↓rulesDp, rulesDq, lit_u64, Int.ofNat_inj]) fun vd g4 n4 ⟨r4, k5⟩ => ?_
  have l5 := k5.le
  have hb4 := k5.same b (by omega)
  rw [hb3] at hb4
  rw [getsF, if_pos good_bytes] at r2
  rw [getsF, if_pos good_pairs] at r4
  have r2 := (r2.ext (k4.ext k3.dom)).ext (k5.ext k4.dom)
  obtain ⟨ba, oa, ca, ra, hva, hga, hea⟩ := rd_nths (f := U) r2 (by simp [bytesF])
  obtain ⟨bd, od, cd, rd, hvd, hgd, hed⟩ := rd_nths (f := U) r4 (by simp [pairsF])
  subst hva; subst hvd
  have a0 := hea 0 (by simp [bytesF]); have a1 := hea 1 (by simp [bytesF]); have a2 := hea 2 (by simp [bytesF]); have a3 := hea 3 (by simp [bytesF]); have a4 := hea 4 (by simp [bytesF])
  have d0 := hed 0 (by simp [pairsF]); have d1 := hed 1 (by simp [pairsF]); have d2 := hed 2 (by simp [pairsF])
  have w0 : IntKind.i64.wrap (uI (getF x0 (0, 8))) = fld x0 0 8 := fld_wrap x0 0 8 (by decide) (by decide)
  have w1 : IntKind.i64.wrap (uI (getF x0 (8, 8))) = fld x0 8 8 := fld_wrap x0 8 8 (by decide) (by decide)
  have w2 : IntKind.i64.wrap (uI (getF x0 (16, 8))) = fld x0 16 8 := fld_wrap x0 16 8 (by decide) (by decide)
  have w3 : decide (getF x0 (24, 8) = 1#64) = decide (fld x0 24 8 = 1) := fld_one x0 24 8 (by decide)
  have w4 : IntKind.i64.wrap (uI (getF x0 (32, 8))) = fld x0 32 8 := fld_wrap x0 32 8 (by decide) (by decide)
  have v0 : IntKind.i64.wrap (uI (getF x1 (0, 16))) = fld x1 0 16 := fld_wrap x1 0 16 (by decide) (by decide)
  have v1 : IntKind.i64.wrap (uI (getF x1 (16, 16))) = fld x1 16 16 := fld_wrap x1 16 16 (by decide) (by decide)
  have v2 : IntKind.i64.wrap (uI (getF x1 (32, 16))) = fld x1 32 16 := fld_wrap x1 32 16 (by decide) (by decide)
  simp only [bytesF, pairsF, List.map_cons, List.map_nil, List.getElem_cons_zero, List.getElem_cons_succ, Nat.add_zero] at a0 a1 a2 a3 a4 d0 d1 d2
  have hba := k5.dom ba (by rw [hga]; simp)
  have hbd := k5.dom bd (by rw [hgd]; simp)
  have hbb := k5.dom b (by rw [hb4]; simp)
  simp (maxSteps := 1000000) (disch := first | assumption | omega | rfl | decide | simp only [fitsR, Bool.and_self]) [↓rules, rules, ↓rulesDp, rulesDq, lit_u64, Int.ofNat_inj, q_int, q_bool, q_uint64, q_A4_uint64, q_thing_Thing, q_S_uint64, q_S_tag_Field, q_tag_Field, hb4, e2, hga, hgd, a0, a1, a2, a3, a4, d0, d1, d2, conv_of_u64 tu_uint64 tu_int, w0, w1, w2, w3, w4, v0, v1, v2, bytesF, pairsF]
  have hp := rd_part (enc := fun w => [U w]) (fun _ => rfl) hv 3 5 (by simp)
  obtain ⟨b', o', cs', r', hv', hg', hlen, hdt⟩ := rd_all hp (by simp)
  simp only [Value.slice.injEq, Option.some.injEq, Addr.mk.injEq] at hv'
  obtain ⟨⟨rfl, rfl, _⟩, _⟩ := hv'
  rw [hbg] at hg'
  simp only [Option.some.injEq, AObj.row.injEq] at hg'
  obtain ⟨rfl, rfl⟩ := hg'
  simp only [List.drop_succ_cons, List.drop_zero, List.take_succ_cons, List.take_zero, List.flatMap_cons, List.flatMap_nil, List.length_cons, List.length_nil, List.cons_append, List.nil_append, Nat.mul_one] at hlen hdt
  refine ⟨by omega, ?_⟩
  simp (maxSteps := 1000000) (disch := first | assumption | omega | rfl | decide | simp only [fitsR, Bool.and_self]) [↓rules, rules, ↓rulesDp, rulesDq, lit_u64, Int.ofNat_inj, q_int, q_bool, q_uint64, q_A4_uint64, q_thing_Thing, q_S_uint64, q_S_tag_Field, q_tag_Field, hb4, hlen, hdt.symm]
  refine ⟨by omega, ?_⟩
  have kq := (((k2.trans k3).trans k4).trans k5).new (.row (cT (decT x0 x1 x2 x3 x4 x5 x6)) true)
  have kg := k1.trans kq
  refine rcall_spec (thing_Put (decT x0 x1 x2 x3 x4 x5 x6) _ _ kg.dom) rfl (fun _ h => h.elim) rfl fun vp gp np ⟨rp, kp⟩ => ?_
  have hn1 := (kq.trans kp).same n (by omega)
  rw [gset, if_pos rfl] at hn1
  have hn4 := kp.same n4 (by omega)
  rw [gset, if_pos rfl] at hn4
  try simp only [cT, decT, noT] at hn1 hn4
  have lp := kp.le
  simp (maxSteps := 1000000) (disch := first | assumption | omega | rfl | decide | simp only [fitsR, Bool.and_self]) [↓rules, rules, ↓rulesDp, rulesDq, lit_u64, Int.ofNat_inj]
  refine rcall_quiet rfl (slices_EqualW _ _ _ _ _ _ (by have := putT_len (decT x0 x1 x2 x3 x4 x5 x6); omega) (by simp) rp ((hv.ext (kg.ext hdom)).ext (kp.ext kg.dom))) ?_
  by_cases c2 : putT (decT x0 x1 x2 x3 x4 x5 x6) = [x0, x1, x2, x3, x4, x5, x6, x7]
  · simp (maxSteps := 1000000) (disch := first | assumption | omega | rfl | decide | simp only [fitsR, Bool.and_self]) [↓rules, rules, ↓rulesDp, rulesDq, lit_u64, Int.ofNat_inj, q_int, q_bool, q_uint64, q_A4_uint64, q_thing_Thing, q_S_uint64, q_S_tag_Field, q_tag_Field, c2, hn1, hn4]
    refine done_q hdom ((kg.trans kp).put (by omega) (by omega) _) rfl ?_
    rw [getT, if_pos c2]
    simp (maxSteps := 1000000) (disch := first | assumption | omega | rfl | decide | simp only [fitsR, Bool.and_self]) [↓rules, rules, ↓rulesDp, rulesDq, lit_u64, Int.ofNat_inj, aResults, aRes, q_int, q_bool, q_uint64, q_A4_uint64, q_thing_Thing, q_S_uint64, q_S_tag_Field, q_tag_Field, decT]
  · simp (maxSteps := 1000000) (disch := first | assumption | omega | rfl | decide | simp only [fitsR, Bool.and_self]) [↓rules, rules, ↓rulesDp, rulesDq, lit_u64, Int.ofNat_inj, q_int, q_bool, q_uint64, q_A4_uint64, q_thing_Thing, q_S_uint64, q_S_tag_Field, q_tag_Field, c2, hn1, hn4]
    refine done_q hdom ((kg.trans kp).put (by omega) (by omega) _) rfl ?_
    rw [getT, if_neg c2]
    simp (maxSteps := 1000000) (disch := first | assumption | omega | rfl | decide | simp only [fitsR, Bool.and_self]) [↓rules, rules, ↓rulesDp, rulesDq, lit_u64, Int.ofNat_inj, aResults, aRes, q_int, q_bool, q_uint64, q_A4_uint64, q_thing_Thing, q_S_uint64, q_S_tag_Field, q_tag_Field, noT]
end Go.Proofs.Ytafpgojoemcgnaa.F11

namespace Go.Proofs.Ytafpgojoemcgnaa.F11
open Go Go.Proofs Go.Proofs.YtafpgojoemcgnaaAbs
set_option maxHeartbeats 8000000
set_option maxRecDepth 100000
theorem ref_within (n low high : Int) (g : AMem) (m : Nat) : FnC Try.prog f_reeveref11_within [.int .i64 n, .int .i64 low, .int .i64 high] g m (fun _ => False) (.bool (inI n low high)) g m := by
  refine fnC_of_rwp t_reeveref11_within hm rfl fun hdom => ?_
  by_cases c : low ≤ n
  · rw [show inI n low high = decide (n ≤ high) by simp [inI, c]]
    simp (maxSteps := 1000000) (disch := first | assumption | omega | rfl | decide) [↓rules, rules, lit_u64, aEval_U, splice_nil, splice_zero, splice_step, gset_gset, Int.ofNat_inj, U_junk, U_cells, U_cellOk, ub_and, ub_or, ub_xor, ub_andNot, ub_add, ub_sub, ub_mul, ub_shl, ub_shr, ub_shl', ub_shr', ub_eql, ub_neq, ub_lss, ub_leq, ub_gtr, ub_geq, rc_reeveref11_within, c]
    exact done_q hdom (Kept.refl hdom) rfl rfl
  · rw [show inI n low high = false by simp [inI, c]]
    simp (maxSteps := 1000000) (disch := first | assumption | omega | rfl | decide) [↓rules, rules, lit_u64, aEval_U, splice_nil, splice_zero, splice_step, gset_gset, Int.ofNat_inj, U_junk, U_cells, U_cellOk, ub_and, ub_or, ub_xor, ub_andNot, ub_add, ub_sub, ub_mul, ub_shl, ub_shr, ub_shl', ub_shr', ub_eql, ub_neq, ub_lss, ub_leq, ub_gtr, ub_geq, rc_reeveref11_within, c]
    exact done_q hdom (Kept.refl hdom) rfl rfl
theorem pow_lt62 {i : Nat} (h : i ≤ 61) : (2 : Int) ^ i ≤ 2305843009213693952 := by
  have : (2 : Nat) ^ i ≤ 2305843009213693952 := (Nat.pow_le_pow_right (by decide) h : (2 : Nat) ^ i ≤ 2 ^ 61)
  have e : ((2 ^ i : Nat) : Int) = (2 : Int) ^ i := Int.natCast_pow 2 i
  rw [← e]; omega
theorem pow_pos2 (i : Nat) : (0 : Int) < 2 ^ i := Int.pow_pos (by decide)
theorem ref_two (k : Int) (h0 : 0 ≤ k) (h1 : k ≤ 61) (g : AMem) (n : Nat) : FnC Try.prog f_reeveref11_two [.int .i64 k] g n (fun _ => False) (.int .i64 (2 ^ k.toNat)) g n := by
  refine fnC_of_rwp t_reeveref11_two hm rfl fun hdom => ?_
  simp (maxSteps := 1000000) (disch := first | assumption | omega | rfl | decide) [↓rules, rules, lit_u64, aEval_U, splice_nil, splice_zero, splice_step, gset_gset, Int.ofNat_inj, U_junk, U_cells, U_cellOk, ub_and, ub_or, ub_xor, ub_andNot, ub_add, ub_sub, ub_mul, ub_shl, ub_shr, ub_shl', ub_shr', ub_eql, ub_neq, ub_lss, ub_leq, ub_gtr, ub_geq, rc_reeveref11_two]
  refine rwp_loop (fun m l g' n' => ∃ i : Nat, m = k.toNat - i ∧ (i : Int) ≤ k ∧ g' = g ∧ n' = n ∧ l = [(0, .int .i64 k), (3, .int .i64 (2 ^ i)), (4, .int .i64 i)]) ?_ (k := k.toNat) ?_
  · rintro m l g' n' ⟨i, rfl, hi, rfl, rfl, rfl⟩
    simp (maxSteps := 1000000) (disch := first | assumption | omega | rfl | decide) [↓rules, rules, lit_u64, aEval_U, splice_nil, splice_zero, splice_step, gset_gset, Int.ofNat_inj, U_junk, U_cells, U_cellOk, ub_and, ub_or, ub_xor, ub_andNot, ub_add, ub_sub, ub_mul, ub_shl, ub_shr, ub_shl', ub_shr', ub_eql, ub_neq, ub_lss, ub_leq, ub_gtr, ub_geq, rc_reeveref11_twol0]
    refine rcond_dec (fun hlt => ?_) (fun hlt => ?_)
    · have e1 := pow_lt62 (i := i) (by omega)
      have e2 := pow_pos2 i
      simp (maxSteps := 1000000) (disch := first | assumption | omega | rfl | decide) [↓rules, rules, lit_u64, aEval_U, splice_nil, splice_zero, splice_step, gset_gset, Int.ofNat_inj, U_junk, U_cells, U_cellOk, ub_and, ub_or, ub_xor, ub_andNot, ub_add, ub_sub, ub_mul, ub_shl, ub_shr, ub_shl', ub_shr', ub_eql, ub_neq, ub_lss, ub_leq, ub_gtr, ub_geq, wrap_i64]
      refine ⟨k.toNat - (i + 1), by omega, i + 1, rfl, by omega, ?_, by simp⟩
      rw [Int.pow_succ, Int.mul_comm]
    · have : i = k.toNat := by omega
      subst this
      refine done_q hdom (Kept.refl hdom) rfl rfl
  · exact ⟨0, by simp, by simpa using h0, rfl, rfl, rfl⟩
theorem bne_vR (xo yo : Operand) (a b : Th) : aBin Try.prog .neq T_reeveref11_Thing xo yo (vT a) (vT b) = some (.bool (!sameT a b)) := by
  rw [← sameT_cells]; exact bin_neq_agg te_reeveref11_Thing ta_reeveref11_Thing (xs := cT a) (ys := cT b) rfl rfl
theorem beq_vR (xo yo : Operand) (a b : Th) : aBin Try.prog .eql T_reeveref11_Thing xo yo (vT a) (vT b) = some (.bool (sameT a b)) := by
  rw [← sameT_cells]; exact bin_eql_agg te_reeveref11_Thing ta_reeveref11_Thing (xs := cT a) (ys := cT b) rfl rfl
theorem ref_GoodThing (t : Th) (g : AMem) (n : Nat) : FnC Try.prog f_reeveref11_GoodThing [vT t] g n (fun _ => False) (.bool (goodT t)) g n := by
  refine fnC_of_rwp t_reeveref11_GoodThing hm rfl fun hdom => ?_
  obtain ⟨ty, bits, base, size, used, frm, badge, full, word, d0, d1, d2, d3⟩ := t
  by_cases c0 : ty = 0
  · subst c0
    simp (maxSteps := 1000000) (disch := first | assumption | omega | rfl | decide | simp only [fitsR, Bool.and_self]) [↓rules, rules, ↓rulesDp, rulesDq, lit_u64, Int.ofNat_inj, rc_reeveref11_GoodThing, q_int, q_bool, q_uint64, q_A4_uint64, q_reeveref11_Thing, beq_reeveref11_Thing]
    refine done_q hdom (((Kept.refl hdom).new _).new _) rfl ?_
    simp (maxSteps := 1000000) (disch := first | assumption | omega | rfl | decide | simp only [fitsR, Bool.and_self]) [↓rules, rules, ↓rulesDp, rulesDq, lit_u64, Int.ofNat_inj, Bool.and_assoc, aResults, aRes, goodT, ownT, noT, sameT]
  by_cases c1 : ty = 1
  · subst c1
    simp (maxSteps := 1000000) (disch := first | assumption | omega | rfl | decide | simp only [fitsR, Bool.and_self]) [↓rules, rules, ↓rulesDp, rulesDq, lit_u64, Int.ofNat_inj, rc_reeveref11_GoodThing, q_int, q_bool, q_uint64, q_A4_uint64, q_reeveref11_Thing]
    refine rcall_quiet rfl (ref_within _ _ _ _ _) ?_
    cases e1 : inI size 1 4096
    · simp (maxSteps := 1000000) (disch := first | assumption | omega | rfl | decide | simp only [fitsR, Bool.and_self]) [↓rules, rules, ↓rulesDp, rulesDq, lit_u64, Int.ofNat_inj, q_int, q_bool, q_uint64, q_A4_uint64, q_reeveref11_Thing]
      refine done_q hdom (((Kept.refl hdom).new _).new _) rfl ?_
      simp (maxSteps := 1000000) (disch := first | assumption | omega | rfl | decide | simp only [fitsR, Bool.and_self]) [↓rules, rules, ↓rulesDp, rulesDq, lit_u64, Int.ofNat_inj, aResults, aRes, goodT, e1]
    simp (maxSteps := 1000000) (disch := first | assumption | omega | rfl | decide | simp only [fitsR, Bool.and_self]) [↓rules, rules, ↓rulesDp, rulesDq, lit_u64, Int.ofNat_inj, q_int, q_bool, q_uint64, q_A4_uint64, q_reeveref11_Thing]
    refine rcall_quiet rfl (ref_within _ _ _ _ _) ?_
    cases e2 : inI used 0 size
    · simp (maxSteps := 1000000) (disch := first | assumption | omega | rfl | decide | simp only [fitsR, Bool.and_self]) [↓rules, rules, ↓rulesDp, rulesDq, lit_u64, Int.ofNat_inj, q_int, q_bool, q_uint64, q_A4_uint64, q_reeveref11_Thing]
      refine done_q hdom (((Kept.refl hdom).new _).new _) rfl ?_
      simp (maxSteps := 1000000) (disch := first | assumption | omega | rfl | decide | simp only [fitsR, Bool.and_self]) [↓rules, rules, ↓rulesDp, rulesDq, lit_u64, Int.ofNat_inj, aResults, aRes, goodT, e1, e2]
    simp (maxSteps := 1000000) (disch := first | assumption | omega | rfl | decide | simp only [fitsR, Bool.and_self]) [↓rules, rules, ↓rulesDp, rulesDq, lit_u64, Int.ofNat_inj, q_int, q_bool, q_uint64, q_A4_uint64, q_reeveref11_Thing, beq_reeveref11_Thing]
    refine done_q hdom (((Kept.refl hdom).new _).new _) rfl ?_
    simp (maxSteps := 1000000) (disch := first | assumption | omega | rfl | decide | simp only [fitsR, Bool.and_self]) [↓rules, rules, ↓rulesDp, rulesDq, lit_u64, Int.ofNat_inj, Bool.and_assoc, aResults, aRes, goodT, ownT, noT, sameT, e1, e2]
  by_cases c2 : ty = 2
  · subst c2
    simp (maxSteps := 1000000) (disch := first | assumption | omega | rfl | decide | simp only [fitsR, Bool.and_self]) [↓rules, rules, ↓rulesDp, rulesDq, lit_u64, Int.ofNat_inj, rc_reeveref11_GoodThing, q_int, q_bool, q_uint64, q_A4_uint64, q_reeveref11_Thing]
    refine rcall_quiet rfl (ref_within _ _ _ _ _) ?_
    cases e1 : inI bits 1 4
    · simp (maxSteps := 1000000) (disch := first | assumption | omega | rfl | decide | simp only [fitsR, Bool.and_self]) [↓rules, rules, ↓rulesDp, rulesDq, lit_u64, Int.ofNat_inj, q_int, q_bool, q_uint64, q_A4_uint64, q_reeveref11_Thing]
      refine done_q hdom (((Kept.refl hdom).new _).new _) rfl ?_
      simp (maxSteps := 1000000) (disch := first | assumption | omega | rfl | decide | simp only [fitsR, Bool.and_self]) [↓rules, rules, ↓rulesDp, rulesDq, lit_u64, Int.ofNat_inj, aResults, aRes, goodT, e1]
    have c4 : 1 ≤ bits ∧ bits ≤ 4 := by simpa [inI] using e1
    have e3 : IntKind.i64.wrap (96 - 2 ^ bits.toNat) = 96 - 2 ^ bits.toNat := by
      have c5 : bits = 1 ∨ bits = 2 ∨ bits = 3 ∨ bits = 4 := by omega
      rcases c5 with e | e | e | e <;> rw [e] <;> rfl
    simp (maxSteps := 1000000) (disch := first | assumption | omega | rfl | decide | simp only [fitsR, Bool.and_self]) [↓rules, rules, ↓rulesDp, rulesDq, lit_u64, Int.ofNat_inj, q_int, q_bool, q_uint64, q_A4_uint64, q_reeveref11_Thing]
    refine rcall_quiet rfl (ref_two _ (by omega) (by omega) _ _) ?_
    simp (maxSteps := 1000000) (disch := first | assumption | omega | rfl | decide | simp only [fitsR, Bool.and_self]) [↓rules, rules, ↓rulesDp, rulesDq, lit_u64, Int.ofNat_inj, q_int, q_bool, q_uint64, q_A4_uint64, q_reeveref11_Thing, e3]
    refine rcall_quiet rfl (ref_within _ _ _ _ _) ?_
    cases e2 : inI base 0 (96 - 2 ^ bits.toNat)
    · simp (maxSteps := 1000000) (disch := first | assumption | omega | rfl | decide | simp only [fitsR, Bool.and_self]) [↓rules, rules, ↓rulesDp, rulesDq, lit_u64, Int.ofNat_inj, q_int, q_bool, q_uint64, q_A4_uint64, q_reeveref11_Thing]
      refine done_q hdom (((Kept.refl hdom).new _).new _) rfl ?_
      simp (maxSteps := 1000000) (disch := first | assumption | omega | rfl | decide | simp only [fitsR, Bool.and_self]) [↓rules, rules, ↓rulesDp, rulesDq, lit_u64, Int.ofNat_inj, aResults, aRes, goodT, e1, e2]
    simp (maxSteps := 1000000) (disch := first | assumption | omega | rfl | decide | simp only [fitsR, Bool.and_self]) [↓rules, rules, ↓rulesDp, rulesDq, lit_u64, Int.ofNat_inj, q_int, q_bool, q_uint64, q_A4_uint64, q_reeveref11_Thing, beq_reeveref11_Thing]
    refine done_q hdom (((Kept.refl hdom).new _).new _) rfl ?_
    simp (maxSteps := 1000000) (disch := first | assumption | omega | rfl | decide | simp only [fitsR, Bool.and_self]) [↓rules, rules, ↓rulesDp, rulesDq, lit_u64, Int.ofNat_inj, Bool.and_assoc, aResults, aRes, goodT, ownT, noT, sameT, e1, e2]
  by_cases c3 : ty = 3
  · subst c3
    cases full
    · simp (maxSteps := 1000000) (disch := first | assumption | omega | rfl | decide | simp only [fitsR, Bool.and_self]) [↓rules, rules, ↓rulesDp, rulesDq, lit_u64, Int.ofNat_inj, rc_reeveref11_GoodThing, q_int, q_bool, q_uint64, q_A4_uint64, q_reeveref11_Thing]
      refine rcall_quiet rfl (ref_within _ _ _ _ _) ?_
      cases e1 : inI badge 0 65535
      · simp (maxSteps := 1000000) (disch := first | assumption | omega | rfl | decide | simp only [fitsR, Bool.and_self]) [↓rules, rules, ↓rulesDp, rulesDq, lit_u64, Int.ofNat_inj, q_int, q_bool, q_uint64, q_A4_uint64, q_reeveref11_Thing]
        refine done_q hdom (((Kept.refl hdom).new _).new _) rfl ?_
        simp (maxSteps := 1000000) (disch := first | assumption | omega | rfl | decide | simp only [fitsR, Bool.and_self]) [↓rules, rules, ↓rulesDp, rulesDq, lit_u64, Int.ofNat_inj, aResults, aRes, goodT, e1]
      simp (maxSteps := 1000000) (disch := first | assumption | omega | rfl | decide | simp only [fitsR, Bool.and_self]) [↓rules, rules, ↓rulesDp, rulesDq, lit_u64, Int.ofNat_inj, q_int, q_bool, q_uint64, q_A4_uint64, q_reeveref11_Thing]
      refine rcall_quiet rfl (ref_within _ _ _ _ _) ?_
      cases e2 : inI frm 0 96
      · simp (maxSteps := 1000000) (disch := first | assumption | omega | rfl | decide | simp only [fitsR, Bool.and_self]) [↓rules, rules, ↓rulesDp, rulesDq, lit_u64, Int.ofNat_inj, q_int, q_bool, q_uint64, q_A4_uint64, q_reeveref11_Thing]
        refine done_q hdom (((Kept.refl hdom).new _).new _) rfl ?_
        simp (maxSteps := 1000000) (disch := first | assumption | omega | rfl | decide | simp only [fitsR, Bool.and_self]) [↓rules, rules, ↓rulesDp, rulesDq, lit_u64, Int.ofNat_inj, aResults, aRes, goodT, e1, e2]
      simp (maxSteps := 1000000) (disch := first | assumption | omega | rfl | decide | simp only [fitsR, Bool.and_self]) [↓rules, rules, ↓rulesDp, rulesDq, lit_u64, Int.ofNat_inj, q_int, q_bool, q_uint64, q_A4_uint64, q_reeveref11_Thing, beq_reeveref11_Thing]
      refine done_q hdom (((Kept.refl hdom).new _).new _) rfl ?_
      simp (maxSteps := 1000000) (disch := first | assumption | omega | rfl | decide | simp only [fitsR, Bool.and_self]) [↓rules, rules, ↓rulesDp, rulesDq, lit_u64, Int.ofNat_inj, Bool.and_assoc, aResults, aRes, goodT, ownT, noT, sameT, e1, e2]
    · simp (maxSteps := 1000000) (disch := first | assumption | omega | rfl | decide | simp only [fitsR, Bool.and_self]) [↓rules, rules, ↓rulesDp, rulesDq, lit_u64, Int.ofNat_inj, rc_reeveref11_GoodThing, q_int, q_bool, q_uint64, q_A4_uint64, q_reeveref11_Thing]
      refine rcall_quiet rfl (ref_within _ _ _ _ _) ?_
      cases e1 : inI badge 0 65535
      · simp (maxSteps := 1000000) (disch := first | assumption | omega | rfl | decide | simp only [fitsR, Bool.and_self]) [↓rules, rules, ↓rulesDp, rulesDq, lit_u64, Int.ofNat_inj, q_int, q_bool, q_uint64, q_A4_uint64, q_reeveref11_Thing]
        refine done_q hdom (((Kept.refl hdom).new _).new _) rfl ?_
        simp (maxSteps := 1000000) (disch := first | assumption | omega | rfl | decide | simp only [fitsR, Bool.and_self]) [↓rules, rules, ↓rulesDp, rulesDq, lit_u64, Int.ofNat_inj, aResults, aRes, goodT, e1]
      simp (maxSteps := 1000000) (disch := first | assumption | omega | rfl | decide | simp only [fitsR, Bool.and_self]) [↓rules, rules, ↓rulesDp, rulesDq, lit_u64, Int.ofNat_inj, q_int, q_bool, q_uint64, q_A4_uint64, q_reeveref11_Thing]
      refine rcall_quiet rfl (ref_within _ _ _ _ _) ?_
      cases e2 : inI frm 0 96
      · simp (maxSteps := 1000000) (disch := first | assumption | omega | rfl | decide | simp only [fitsR, Bool.and_self]) [↓rules, rules, ↓rulesDp, rulesDq, lit_u64, Int.ofNat_inj, q_int, q_bool, q_uint64, q_A4_uint64, q_reeveref11_Thing]
        refine done_q hdom (((Kept.refl hdom).new _).new _) rfl ?_
        simp (maxSteps := 1000000) (disch := first | assumption | omega | rfl | decide | simp only [fitsR, Bool.and_self]) [↓rules, rules, ↓rulesDp, rulesDq, lit_u64, Int.ofNat_inj, aResults, aRes, goodT, e1, e2]
      simp (maxSteps := 1000000) (disch := first | assumption | omega | rfl | decide | simp only [fitsR, Bool.and_self]) [↓rules, rules, ↓rulesDp, rulesDq, lit_u64, Int.ofNat_inj, q_int, q_bool, q_uint64, q_A4_uint64, q_reeveref11_Thing, beq_reeveref11_Thing]
      refine done_q hdom (((Kept.refl hdom).new _).new _) rfl ?_
      simp (maxSteps := 1000000) (disch := first | assumption | omega | rfl | decide | simp only [fitsR, Bool.and_self]) [↓rules, rules, ↓rulesDp, rulesDq, lit_u64, Int.ofNat_inj, Bool.and_assoc, aResults, aRes, goodT, ownT, noT, sameT, e1, e2]
  by_cases c4 : ty = 4
  · subst c4
    simp (maxSteps := 1000000) (disch := first | assumption | omega | rfl | decide | simp only [fitsR, Bool.and_self]) [↓rules, rules, ↓rulesDp, rulesDq, lit_u64, Int.ofNat_inj, rc_reeveref11_GoodThing, q_int, q_bool, q_uint64, q_A4_uint64, q_reeveref11_Thing, beq_reeveref11_Thing]
    refine done_q hdom (((Kept.refl hdom).new _).new _) rfl ?_
    simp (maxSteps := 1000000) (disch := first | assumption | omega | rfl | decide | simp only [fitsR, Bool.and_self]) [↓rules, rules, ↓rulesDp, rulesDq, lit_u64, Int.ofNat_inj, Bool.and_assoc, aResults, aRes, goodT, ownT, noT, sameT]
  by_cases c5 : ty = 5
  · subst c5
    simp (maxSteps := 1000000) (disch := first | assumption | omega | rfl | decide | simp only [fitsR, Bool.and_self]) [↓rules, rules, ↓rulesDp, rulesDq, lit_u64, Int.ofNat_inj, rc_reeveref11_GoodThing, q_int, q_bool, q_uint64, q_A4_uint64, q_reeveref11_Thing, beq_reeveref11_Thing]
    refine done_q hdom (((Kept.refl hdom).new _).new _) rfl ?_
    simp (maxSteps := 1000000) (disch := first | assumption | omega | rfl | decide | simp only [fitsR, Bool.and_self]) [↓rules, rules, ↓rulesDp, rulesDq, lit_u64, Int.ofNat_inj, Bool.and_assoc, aResults, aRes, goodT, ownT, noT, sameT]
  simp (maxSteps := 1000000) (disch := first | assumption | omega | rfl | decide | simp only [fitsR, Bool.and_self]) [↓rules, rules, ↓rulesDp, rulesDq, lit_u64, Int.ofNat_inj, rc_reeveref11_GoodThing, q_int, q_bool, q_uint64, q_A4_uint64, q_reeveref11_Thing, beq_reeveref11_Thing, c0, c1, c2, c3, c4, c5]
  refine done_q hdom (((Kept.refl hdom).new _).new _) rfl ?_
  have e : ¬ 0 = ty := fun h => c0 h.symm
  simp (maxSteps := 1000000) (disch := first | assumption | omega | rfl | decide | simp only [fitsR, Bool.and_self]) [↓rules, rules, ↓rulesDp, rulesDq, lit_u64, Int.ofNat_inj, Bool.and_assoc, aResults, aRes, goodT, ownT, noT, sameT, c1, c2, c3, c4, c5, e]
theorem thingOf (t : Th) (g : AMem) (n : Nat) : FnC Try.prog f_reevelaw11_thingOf [vT t] g n (fun _ => False) (vT t) g n := by
  refine fnC_of_rwp t_reevelaw11_thingOf hm rfl fun hdom => ?_
  simp (maxSteps := 1000000) (disch := first | assumption | omega | rfl | decide | simp only [fitsR, Bool.and_self]) [↓rules, rules, ↓rulesDp, rulesDq, lit_u64, Int.ofNat_inj, rc_reevelaw11_thingOf, q_int, q_bool, q_uint64, q_A4_uint64, q_thing_Thing, q_reeveref11_Thing]
  refine done_q hdom (((Kept.refl hdom).new _).new _) rfl ?_
  simp (maxSteps := 1000000) (disch := first | assumption | omega | rfl | decide | simp only [fitsR, Bool.and_self]) [↓rules, rules, ↓rulesDp, rulesDq, lit_u64, Int.ofNat_inj, aResults, aRes, q_int, q_bool, q_uint64, q_A4_uint64, q_thing_Thing, q_reeveref11_Thing]
/-! ### What one costs; new ones -/
def costT (k s : Int) : Int × Bool :=
  if k = 1 then (if inI s 1 4096 = true then (s, true) else (0, false))
  else if k = 2 then (if inI s 1 4 = true then (2 ^ s.toNat, true) else (0, false))
  else if k = 3 ∨ k = 4 then (1, true)
  else if k = 5 then (2, true)
  else (0, false)
theorem thing_Cost (k s : Int) (g : AMem) (n : Nat) : FnC Try.prog f_thing_Cost [.int .i64 k, .int .i64 s] g n (fun _ => False) (.tuple #[.int .i64 (costT k s).1, .bool (costT k s).2]) g n := by
  refine fnC_of_rwp t_thing_Cost hm rfl fun hdom => ?_
  by_cases c1 : k = 1
  · subst c1
    simp (maxSteps := 1000000) (disch := first | assumption | omega | rfl | decide | simp only [fitsR, Bool.and_self]) [↓rules, rules, ↓rulesDp, rulesDq, lit_u64, Int.ofNat_inj, rc_thing_Cost, q_int, q_bool]
    refine rcall_quiet rfl (thing_in _ _ _ _ _) ?_
    cases e : inI s 1 4096
    · simp (maxSteps := 1000000) (disch := first | assumption | omega | rfl | decide | simp only [fitsR, Bool.and_self]) [↓rules, rules, ↓rulesDp, rulesDq, lit_u64, Int.ofNat_inj]
      refine done_q hdom (Kept.refl hdom) rfl ?_
      simp (maxSteps := 1000000) (disch := first | assumption | omega | rfl | decide | simp only [fitsR, Bool.and_self]) [↓rules, rules, ↓rulesDp, rulesDq, lit_u64, Int.ofNat_inj, aResults, aRes, costT, e]
    · simp (maxSteps := 1000000) (disch := first | assumption | omega | rfl | decide | simp only [fitsR, Bool.and_self]) [↓rules, rules, ↓rulesDp, rulesDq, lit_u64, Int.ofNat_inj]
      refine done_q hdom (Kept.refl hdom) rfl ?_
      simp (maxSteps := 1000000) (disch := first | assumption | omega | rfl | decide | simp only [fitsR, Bool.and_self]) [↓rules, rules, ↓rulesDp, rulesDq, lit_u64, Int.ofNat_inj, aResults, aRes, costT, e]
  by_cases c2 : k = 2
  · subst c2
    simp (maxSteps := 1000000) (disch := first | assumption | omega | rfl | decide | simp only [fitsR, Bool.and_self]) [↓rules, rules, ↓rulesDp, rulesDq, lit_u64, Int.ofNat_inj, rc_thing_Cost, q_int, q_bool]
    refine rcall_quiet rfl (thing_in _ _ _ _ _) ?_
    cases e : inI s 1 4
    · simp (maxSteps := 1000000) (disch := first | assumption | omega | rfl | decide | simp only [fitsR, Bool.and_self]) [↓rules, rules, ↓rulesDp, rulesDq, lit_u64, Int.ofNat_inj]
      refine done_q hdom (Kept.refl hdom) rfl ?_
      simp (maxSteps := 1000000) (disch := first | assumption | omega | rfl | decide | simp only [fitsR, Bool.and_self]) [↓rules, rules, ↓rulesDp, rulesDq, lit_u64, Int.ofNat_inj, aResults, aRes, costT, e]
    · have c4 : 1 ≤ s ∧ s ≤ 4 := by simpa [inI] using e
      have c5 : s = 1 ∨ s = 2 ∨ s = 3 ∨ s = 4 := by omega
      have e1 : ∀ xo yo, aBin Try.prog .shl T_int xo yo (.int .i64 1) (.int .i64 s) = some (.int .i64 (2 ^ s.toNat)) := by
        intro xo yo
        rw [bin_shl (by omega)]
        rcases c5 with e | e | e | e <;> rw [e] <;> rfl
      simp (maxSteps := 1000000) (disch := first | assumption | omega | rfl | decide | simp only [fitsR, Bool.and_self]) [↓rules, rules, ↓rulesDp, rulesDq, lit_u64, Int.ofNat_inj, e1]
      refine done_q hdom (Kept.refl hdom) rfl ?_
      simp (maxSteps := 1000000) (disch := first | assumption | omega | rfl | decide | simp only [fitsR, Bool.and_self]) [↓rules, rules, ↓rulesDp, rulesDq, lit_u64, Int.ofNat_inj, aResults, aRes, costT, e]
  by_cases c3 : k = 3
  · subst c3
    simp (maxSteps := 1000000) (disch := first | assumption | omega | rfl | decide | simp only [fitsR, Bool.and_self]) [↓rules, rules, ↓rulesDp, rulesDq, lit_u64, Int.ofNat_inj, rc_thing_Cost, q_int, q_bool]
    refine done_q hdom (Kept.refl hdom) rfl ?_
    simp (maxSteps := 1000000) (disch := first | assumption | omega | rfl | decide | simp only [fitsR, Bool.and_self]) [↓rules, rules, ↓rulesDp, rulesDq, lit_u64, Int.ofNat_inj, aResults, aRes, costT]
  by_cases c4 : k = 4
  · subst c4
    simp (maxSteps := 1000000) (disch := first | assumption | omega | rfl | decide | simp only [fitsR, Bool.and_self]) [↓rules, rules, ↓rulesDp, rulesDq, lit_u64, Int.ofNat_inj, rc_thing_Cost, q_int, q_bool]
    refine done_q hdom (Kept.refl hdom) rfl ?_
    simp (maxSteps := 1000000) (disch := first | assumption | omega | rfl | decide | simp only [fitsR, Bool.and_self]) [↓rules, rules, ↓rulesDp, rulesDq, lit_u64, Int.ofNat_inj, aResults, aRes, costT]
  by_cases c5 : k = 5
  · subst c5
    simp (maxSteps := 1000000) (disch := first | assumption | omega | rfl | decide | simp only [fitsR, Bool.and_self]) [↓rules, rules, ↓rulesDp, rulesDq, lit_u64, Int.ofNat_inj, rc_thing_Cost, q_int, q_bool]
    refine done_q hdom (Kept.refl hdom) rfl ?_
    simp (maxSteps := 1000000) (disch := first | assumption | omega | rfl | decide | simp only [fitsR, Bool.and_self]) [↓rules, rules, ↓rulesDp, rulesDq, lit_u64, Int.ofNat_inj, aResults, aRes, costT]
  simp (maxSteps := 1000000) (disch := first | assumption | omega | rfl | decide | simp only [fitsR, Bool.and_self]) [↓rules, rules, ↓rulesDp, rulesDq, lit_u64, Int.ofNat_inj, rc_thing_Cost, q_int, q_bool, c1, c2, c3, c4, c5]
  refine done_q hdom (Kept.refl hdom) rfl ?_
  simp (maxSteps := 1000000) (disch := first | assumption | omega | rfl | decide | simp only [fitsR, Bool.and_self]) [↓rules, rules, ↓rulesDp, rulesDq, lit_u64, Int.ofNat_inj, aResults, aRes, costT, c1, c2, c3, c4, c5]
theorem ref_Cost (k s : Int) (g : AMem) (n : Nat) : FnC Try.prog f_reeveref11_Cost [.int .i64 k, .int .i64 s] g n (fun _ => False) (.tuple #[.int .i64 (costT k s).1, .bool (costT k s).2]) g n := by
  refine fnC_of_rwp t_reeveref11_Cost hm rfl fun hdom => ?_
  by_cases c1 : k = 1
  · subst c1
    simp (maxSteps := 1000000) (disch := first | assumption | omega | rfl | decide | simp only [fitsR, Bool.and_self]) [↓rules, rules, ↓rulesDp, rulesDq, lit_u64, Int.ofNat_inj, rc_reeveref11_Cost, q_int, q_bool]
    refine rcall_quiet rfl (ref_within _ _ _ _ _) ?_
    cases e : inI s 1 4096
    · simp (maxSteps := 1000000) (disch := first | assumption | omega | rfl | decide | simp only [fitsR, Bool.and_self]) [↓rules, rules, ↓rulesDp, rulesDq, lit_u64, Int.ofNat_inj]
      refine done_q hdom (Kept.refl hdom) rfl ?_
      simp (maxSteps := 1000000) (disch := first | assumption | omega | rfl | decide | simp only [fitsR, Bool.and_self]) [↓rules, rules, ↓rulesDp, rulesDq, lit_u64, Int.ofNat_inj, aResults, aRes, costT, e]
    · simp (maxSteps := 1000000) (disch := first | assumption | omega | rfl | decide | simp only [fitsR, Bool.and_self]) [↓rules, rules, ↓rulesDp, rulesDq, lit_u64, Int.ofNat_inj]
      refine done_q hdom (Kept.refl hdom) rfl ?_
      simp (maxSteps := 1000000) (disch := first | assumption | omega | rfl | decide | simp only [fitsR, Bool.and_self]) [↓rules, rules, ↓rulesDp, rulesDq, lit_u64, Int.ofNat_inj, aResults, aRes, costT, e]
  by_cases c2 : k = 2
  · subst c2
    simp (maxSteps := 1000000) (disch := first | assumption | omega | rfl | decide | simp only [fitsR, Bool.and_self]) [↓rules, rules, ↓rulesDp, rulesDq, lit_u64, Int.ofNat_inj, rc_reeveref11_Cost, q_int, q_bool]
    refine rcall_quiet rfl (ref_within _ _ _ _ _) ?_
    cases e : inI s 1 4
    · simp (maxSteps := 1000000) (disch := first | assumption | omega | rfl | decide | simp only [fitsR, Bool.and_self]) [↓rules, rules, ↓rulesDp, rulesDq, lit_u64, Int.ofNat_inj]
      refine done_q hdom (Kept.refl hdom) rfl ?_
      simp (maxSteps := 1000000) (disch := first | assumption | omega | rfl | decide | simp only [fitsR, Bool.and_self]) [↓rules, rules, ↓rulesDp, rulesDq, lit_u64, Int.ofNat_inj, aResults, aRes, costT, e]
    · have c4 : 1 ≤ s ∧ s ≤ 4 := by simpa [inI] using e
      simp (maxSteps := 1000000) (disch := first | assumption | omega | rfl | decide | simp only [fitsR, Bool.and_self]) [↓rules, rules, ↓rulesDp, rulesDq, lit_u64, Int.ofNat_inj]
      refine rcall_quiet rfl (ref_two _ (by omega) (by omega) _ _) ?_
      simp (maxSteps := 1000000) (disch := first | assumption | omega | rfl | decide | simp only [fitsR, Bool.and_self]) [↓rules, rules, ↓rulesDp, rulesDq, lit_u64, Int.ofNat_inj]
      refine done_q hdom (Kept.refl hdom) rfl ?_
      simp (maxSteps := 1000000) (disch := first | assumption | omega | rfl | decide | simp only [fitsR, Bool.and_self]) [↓rules, rules, ↓rulesDp, rulesDq, lit_u64, Int.ofNat_inj, aResults, aRes, costT, e]
  by_cases c3 : k = 3
  · subst c3
    simp (maxSteps := 1000000) (disch := first | assumption | omega | rfl | decide | simp only [fitsR, Bool.and_self]) [↓rules, rules, ↓rulesDp, rulesDq, lit_u64, Int.ofNat_inj, rc_reeveref11_Cost, q_int, q_bool]
    refine done_q hdom (Kept.refl hdom) rfl ?_
    simp (maxSteps := 1000000) (disch := first | assumption | omega | rfl | decide | simp only [fitsR, Bool.and_self]) [↓rules, rules, ↓rulesDp, rulesDq, lit_u64, Int.ofNat_inj, aResults, aRes, costT]
  by_cases c4 : k = 4
  · subst c4
    simp (maxSteps := 1000000) (disch := first | assumption | omega | rfl | decide | simp only [fitsR, Bool.and_self]) [↓rules, rules, ↓rulesDp, rulesDq, lit_u64, Int.ofNat_inj, rc_reeveref11_Cost, q_int, q_bool]
    refine done_q hdom (Kept.refl hdom) rfl ?_
    simp (maxSteps := 1000000) (disch := first | assumption | omega | rfl | decide | simp only [fitsR, Bool.and_self]) [↓rules, rules, ↓rulesDp, rulesDq, lit_u64, Int.ofNat_inj, aResults, aRes, costT]
  by_cases c5 : k = 5
  · subst c5
    simp (maxSteps := 1000000) (disch := first | assumption | omega | rfl | decide | simp only [fitsR, Bool.and_self]) [↓rules, rules, ↓rulesDp, rulesDq, lit_u64, Int.ofNat_inj, rc_reeveref11_Cost, q_int, q_bool]
    refine done_q hdom (Kept.refl hdom) rfl ?_
    simp (maxSteps := 1000000) (disch := first | assumption | omega | rfl | decide | simp only [fitsR, Bool.and_self]) [↓rules, rules, ↓rulesDp, rulesDq, lit_u64, Int.ofNat_inj, aResults, aRes, costT]
  simp (maxSteps := 1000000) (disch := first | assumption | omega | rfl | decide | simp only [fitsR, Bool.and_self]) [↓rules, rules, ↓rulesDp, rulesDq, lit_u64, Int.ofNat_inj, rc_reeveref11_Cost, q_int, q_bool, c1, c2, c3, c4, c5]
  refine done_q hdom (Kept.refl hdom) rfl ?_
  simp (maxSteps := 1000000) (disch := first | assumption | omega | rfl | decide | simp only [fitsR, Bool.and_self]) [↓rules, rules, ↓rulesDp, rulesDq, lit_u64, Int.ofNat_inj, aResults, aRes, costT, c1, c2, c3, c4, c5]
end Go.Proofs.Ytafpgojoemcgnaa.F11

namespace Go.Proofs.Ytafpgojoemcgnaa.F11
open Go Go.Proofs Go.Proofs.YtafpgojoemcgnaaAbs
set_option maxHeartbeats 8000000
set_option maxRecDepth 100000
def mkT (k s b : Int) : Th := if k = 1 then { noT with ty := k, size := s } else if k = 2 then { noT with ty := k, bits := s, base := b } else { noT with ty := k }
def newT (k s b : Int) : Th × Bool := if 1 ≤ k ∧ k ≤ 5 ∧ goodT (mkT k s b) = true then (mkT k s b, true) else (noT, false)
theorem thing_New (k s b : Int) (g : AMem) (n : Nat) : FnC Try.prog f_thing_New [.int .i64 k, .int .i64 s, .int .i64 b] g n (fun _ => False) (.tuple #[vT (newT k s b).1, .bool (newT k s b).2]) g n := by
  refine fnC_of_rwp t_thing_New hm rfl fun hdom => ?_
  by_cases c1 : k = 1
  · subst c1
    simp (maxSteps := 1000000) (disch := first | assumption | omega | rfl | decide | simp only [fitsR, Bool.and_self]) [↓rules, rules, ↓rulesDp, rulesDq, lit_u64, Int.ofNat_inj, rc_thing_New, q_int, q_bool, q_uint64, q_A4_uint64, q_thing_Thing]
    refine rcall_quiet rfl (thing_Good ⟨1, 0, 0, s, 0, 0, 0, false, 0#64, 0#64, 0#64, 0#64, 0#64⟩ _ _) ?_
    cases c : goodT ⟨1, 0, 0, s, 0, 0, 0, false, 0#64, 0#64, 0#64, 0#64, 0#64⟩
    · simp (maxSteps := 1000000) (disch := first | assumption | omega | rfl | decide | simp only [fitsR, Bool.and_self]) [↓rules, rules, ↓rulesDp, rulesDq, lit_u64, Int.ofNat_inj, q_int, q_bool, q_uint64, q_A4_uint64, q_thing_Thing]
      refine done_q hdom (by repeat first | exact Kept.refl hdom | refine Kept.new ?_ _ | refine Kept.drop ?_ (by omega) | refine Kept.put ?_ (by omega) (by omega) _ | refine Kept.skip ?_) rfl ?_
      simp (maxSteps := 1000000) (disch := first | assumption | omega | rfl | decide | simp only [fitsR, Bool.and_self]) [↓rules, rules, ↓rulesDp, rulesDq, lit_u64, Int.ofNat_inj, aResults, aRes, q_int, q_bool, q_uint64, q_A4_uint64, q_thing_Thing, newT, mkT, noT, c]
    · simp (maxSteps := 1000000) (disch := first | assumption | omega | rfl | decide | simp only [fitsR, Bool.and_self]) [↓rules, rules, ↓rulesDp, rulesDq, lit_u64, Int.ofNat_inj, q_int, q_bool, q_uint64, q_A4_uint64, q_thing_Thing]
      refine done_q hdom (by repeat first | exact Kept.refl hdom | refine Kept.new ?_ _ | refine Kept.drop ?_ (by omega) | refine Kept.put ?_ (by omega) (by omega) _ | refine Kept.skip ?_) rfl ?_
      simp (maxSteps := 1000000) (disch := first | assumption | omega | rfl | decide | simp only [fitsR, Bool.and_self]) [↓rules, rules, ↓rulesDp, rulesDq, lit_u64, Int.ofNat_inj, aResults, aRes, q_int, q_bool, q_uint64, q_A4_uint64, q_thing_Thing, newT, mkT, noT, c]
  by_cases c2 : k = 2
  · subst c2
    simp (maxSteps := 1000000) (disch := first | assumption | omega | rfl | decide | simp only [fitsR, Bool.and_self]) [↓rules, rules, ↓rulesDp, rulesDq, lit_u64, Int.ofNat_inj, rc_thing_New, q_int, q_bool, q_uint64, q_A4_uint64, q_thing_Thing]
    refine rcall_quiet rfl (thing_Good ⟨2, s, b, 0, 0, 0, 0, false, 0#64, 0#64, 0#64, 0#64, 0#64⟩ _ _) ?_
    cases c : goodT ⟨2, s, b, 0, 0, 0, 0, false, 0#64, 0#64, 0#64, 0#64, 0#64⟩
    · simp (maxSteps := 1000000) (disch := first | assumption | omega | rfl | decide | simp only [fitsR, Bool.and_self]) [↓rules, rules, ↓rulesDp, rulesDq, lit_u64, Int.ofNat_inj, q_int, q_bool, q_uint64, q_A4_uint64, q_thing_Thing]
      refine done_q hdom (by repeat first | exact Kept.refl hdom | refine Kept.new ?_ _ | refine Kept.drop ?_ (by omega) | refine Kept.put ?_ (by omega) (by omega) _ | refine Kept.skip ?_) rfl ?_
      simp (maxSteps := 1000000) (disch := first | assumption | omega | rfl | decide | simp only [fitsR, Bool.and_self]) [↓rules, rules, ↓rulesDp, rulesDq, lit_u64, Int.ofNat_inj, aResults, aRes, q_int, q_bool, q_uint64, q_A4_uint64, q_thing_Thing, newT, mkT, noT, c]
    · simp (maxSteps := 1000000) (disch := first | assumption | omega | rfl | decide | simp only [fitsR, Bool.and_self]) [↓rules, rules, ↓rulesDp, rulesDq, lit_u64, Int.ofNat_inj, q_int, q_bool, q_uint64, q_A4_uint64, q_thing_Thing]
      refine done_q hdom (by repeat first | exact Kept.refl hdom | refine Kept.new ?_ _ | refine Kept.drop ?_ (by omega) | refine Kept.put ?_ (by omega) (by omega) _ | refine Kept.skip ?_) rfl ?_
      simp (maxSteps := 1000000) (disch := first | assumption | omega | rfl | decide | simp only [fitsR, Bool.and_self]) [↓rules, rules, ↓rulesDp, rulesDq, lit_u64, Int.ofNat_inj, aResults, aRes, q_int, q_bool, q_uint64, q_A4_uint64, q_thing_Thing, newT, mkT, noT, c]
  by_cases c3 : k = 3
  · subst c3
    simp (maxSteps := 1000000) (disch := first | assumption | omega | rfl | decide | simp only [fitsR, Bool.and_self]) [↓rules, rules, ↓rulesDp, rulesDq, lit_u64, Int.ofNat_inj, rc_thing_New, q_int, q_bool, q_uint64, q_A4_uint64, q_thing_Thing]
    refine rcall_quiet rfl (thing_Good ⟨3, 0, 0, 0, 0, 0, 0, false, 0#64, 0#64, 0#64, 0#64, 0#64⟩ _ _) ?_
    cases c : goodT ⟨3, 0, 0, 0, 0, 0, 0, false, 0#64, 0#64, 0#64, 0#64, 0#64⟩
    · simp (maxSteps := 1000000) (disch := first | assumption | omega | rfl | decide | simp only [fitsR, Bool.and_self]) [↓rules, rules, ↓rulesDp, rulesDq, lit_u64, Int.ofNat_inj, q_int, q_bool, q_uint64, q_A4_uint64, q_thing_Thing]
      refine done_q hdom (by repeat first | exact Kept.refl hdom | refine Kept.new ?_ _ | refine Kept.drop ?_ (by omega) | refine Kept.put ?_ (by omega) (by omega) _ | refine Kept.skip ?_) rfl ?_
      simp (maxSteps := 1000000) (disch := first | assumption | omega | rfl | decide | simp only [fitsR, Bool.and_self]) [↓rules, rules, ↓rulesDp, rulesDq, lit_u64, Int.ofNat_inj, aResults, aRes, q_int, q_bool, q_uint64, q_A4_uint64, q_thing_Thing, newT, mkT, noT, c]
    · simp (maxSteps := 1000000) (disch := first | assumption | omega | rfl | decide | simp only [fitsR, Bool.and_self]) [↓rules, rules, ↓rulesDp, rulesDq, lit_u64, Int.ofNat_inj, q_int, q_bool, q_uint64, q_A4_uint64, q_thing_Thing]
      refine done_q hdom (by repeat first | exact Kept.refl hdom | refine Kept.new ?_ _ | refine Kept.drop ?_ (by omega) | refine Kept.put ?_ (by omega) (by omega) _ | refine Kept.skip ?_) rfl ?_
      simp (maxSteps := 1000000) (disch := first | assumption | omega | rfl | decide | simp only [fitsR, Bool.and_self]) [↓rules, rules, ↓rulesDp, rulesDq, lit_u64, Int.ofNat_inj, aResults, aRes, q_int, q_bool, q_uint64, q_A4_uint64, q_thing_Thing, newT, mkT, noT, c]
  by_cases c4 : k = 4
  · subst c4
    simp (maxSteps := 1000000) (disch := first | assumption | omega | rfl | decide | simp only [fitsR, Bool.and_self]) [↓rules, rules, ↓rulesDp, rulesDq, lit_u64, Int.ofNat_inj, rc_thing_New, q_int, q_bool, q_uint64, q_A4_uint64, q_thing_Thing]
    refine rcall_quiet rfl (thing_Good ⟨4, 0, 0, 0, 0, 0, 0, false, 0#64, 0#64, 0#64, 0#64, 0#64⟩ _ _) ?_
    cases c : goodT ⟨4, 0, 0, 0, 0, 0, 0, false, 0#64, 0#64, 0#64, 0#64, 0#64⟩
    · simp (maxSteps := 1000000) (disch := first | assumption | omega | rfl | decide | simp only [fitsR, Bool.and_self]) [↓rules, rules, ↓rulesDp, rulesDq, lit_u64, Int.ofNat_inj, q_int, q_bool, q_uint64, q_A4_uint64, q_thing_Thing]
      refine done_q hdom (by repeat first | exact Kept.refl hdom | refine Kept.new ?_ _ | refine Kept.drop ?_ (by omega) | refine Kept.put ?_ (by omega) (by omega) _ | refine Kept.skip ?_) rfl ?_
      simp (maxSteps := 1000000) (disch := first | assumption | omega | rfl | decide | simp only [fitsR, Bool.and_self]) [↓rules, rules, ↓rulesDp, rulesDq, lit_u64, Int.ofNat_inj, aResults, aRes, q_int, q_bool, q_uint64, q_A4_uint64, q_thing_Thing, newT, mkT, noT, c]
    · simp (maxSteps := 1000000) (disch := first | assumption | omega | rfl | decide | simp only [fitsR, Bool.and_self]) [↓rules, rules, ↓rulesDp, rulesDq, lit_u64, Int.ofNat_inj, q_int, q_bool, q_uint64, q_A4_uint64, q_thing_Thing]
      refine done_q hdom (by repeat first | exact Kept.refl hdom | refine Kept.new ?_ _ | refine Kept.drop ?_ (by omega) | refine Kept.put ?_ (by omega) (by omega) _ | refine Kept.skip ?_) rfl ?_
      simp (maxSteps := 1000000) (disch := first | assumption | omega | rfl | decide | simp only [fitsR, Bool.and_self]) [↓rules, rules, ↓rulesDp, rulesDq, lit_u64, Int.ofNat_inj, aResults, aRes, q_int, q_bool, q_uint64, q_A4_uint64, q_thing_Thing, newT, mkT, noT, c]
  by_cases c5 : k = 5
  · subst c5
    simp (maxSteps := 1000000) (disch := first | assumption | omega | rfl | decide | simp only [fitsR, Bool.and_self]) [↓rules, rules, ↓rulesDp, rulesDq, lit_u64, Int.ofNat_inj, rc_thing_New, q_int, q_bool, q_uint64, q_A4_uint64, q_thing_Thing]
    refine rcall_quiet rfl (thing_Good ⟨5, 0, 0, 0, 0, 0, 0, false, 0#64, 0#64, 0#64, 0#64, 0#64⟩ _ _) ?_
    cases c : goodT ⟨5, 0, 0, 0, 0, 0, 0, false, 0#64, 0#64, 0#64, 0#64, 0#64⟩
    · simp (maxSteps := 1000000) (disch := first | assumption | omega | rfl | decide | simp only [fitsR, Bool.and_self]) [↓rules, rules, ↓rulesDp, rulesDq, lit_u64, Int.ofNat_inj, q_int, q_bool, q_uint64, q_A4_uint64, q_thing_Thing]
      refine done_q hdom (by repeat first | exact Kept.refl hdom | refine Kept.new ?_ _ | refine Kept.drop ?_ (by omega) | refine Kept.put ?_ (by omega) (by omega) _ | refine Kept.skip ?_) rfl ?_
      simp (maxSteps := 1000000) (disch := first | assumption | omega | rfl | decide | simp only [fitsR, Bool.and_self]) [↓rules, rules, ↓rulesDp, rulesDq, lit_u64, Int.ofNat_inj, aResults, aRes, q_int, q_bool, q_uint64, q_A4_uint64, q_thing_Thing, newT, mkT, noT, c]
    · simp (maxSteps := 1000000) (disch := first | assumption | omega | rfl | decide | simp only [fitsR, Bool.and_self]) [↓rules, rules, ↓rulesDp, rulesDq, lit_u64, Int.ofNat_inj, q_int, q_bool, q_uint64, q_A4_uint64, q_thing_Thing]
      refine done_q hdom (by repeat first | exact Kept.refl hdom | refine Kept.new ?_ _ | refine Kept.drop ?_ (by omega) | refine Kept.put ?_ (by omega) (by omega) _ | refine Kept.skip ?_) rfl ?_
      simp (maxSteps := 1000000) (disch := first | assumption | omega | rfl | decide | simp only [fitsR, Bool.and_self]) [↓rules, rules, ↓rulesDp, rulesDq, lit_u64, Int.ofNat_inj, aResults, aRes, q_int, q_bool, q_uint64, q_A4_uint64, q_thing_Thing, newT, mkT, noT, c]
  have c6 : ¬ (1 ≤ k ∧ k ≤ 5) := by omega
  simp (maxSteps := 1000000) (disch := first | assumption | omega | rfl | decide | simp only [fitsR, Bool.and_self]) [↓rules, rules, ↓rulesDp, rulesDq, lit_u64, Int.ofNat_inj, rc_thing_New, q_int, q_bool, q_uint64, q_A4_uint64, q_thing_Thing, c1, c2, c3, c4, c5]
  refine done_q hdom (by repeat first | exact Kept.refl hdom | refine Kept.new ?_ _ | refine Kept.drop ?_ (by omega) | refine Kept.put ?_ (by omega) (by omega) _ | refine Kept.skip ?_) rfl ?_
  have e : newT k s b = (noT, false) := if_neg (fun h => c6 ⟨h.1, h.2.1⟩)
  rw [e]
  simp (maxSteps := 1000000) (disch := first | assumption | omega | rfl | decide | simp only [fitsR, Bool.and_self]) [↓rules, rules, ↓rulesDp, rulesDq, lit_u64, Int.ofNat_inj, aResults, aRes, q_int, q_bool, q_uint64, q_A4_uint64, q_thing_Thing, noT]
/-! ### The document's words -/
theorem wordsA {t : Th} : wordsT t = [BitVec.ofInt 64 (numA t), BitVec.ofInt 64 (numB t), t.word, t.d0, t.d1, t.d2, t.d3, 0#64] := rfl
theorem ref_PutThing (t : Th) (g : AMem) (n : Nat) (hdom : ∀ i, g i ≠ none → i < n) : FnS Try.prog f_reeveref11_PutThing [vT t] g n (fun _ => False) fun v g' n' => rdW g' v (putT t) ∧ Kept g n g' n' := by
  refine fnS_of_rwp t_reeveref11_PutThing hm rfl hdom ?_
  simp (maxSteps := 1000000) (disch := first | assumption | omega | rfl | decide | simp only [fitsR, Bool.and_self]) [↓rules, rules, ↓rulesDp, rulesDq, lit_u64, Int.ofNat_inj, rc_reeveref11_PutThing, q_int, q_bool, q_uint64, q_A4_uint64, q_S_uint64, q_reeveref11_Thing]
  refine rcall_quiet rfl (ref_GoodThing t _ _) ?_
  cases c : goodT t
  · simp (maxSteps := 1000000) (disch := first | assumption | omega | rfl | decide | simp only [fitsR, Bool.and_self]) [↓rules, rules, ↓rulesDp, rulesDq, lit_u64, Int.ofNat_inj]
    refine sdone_ret rfl ⟨?_, (Kept.refl hdom).new _⟩
    rw [putT, c]; exact Rd.nil
  obtain ⟨⟨a1, a2⟩, ⟨b1, b2⟩, ⟨c1, c2⟩, ⟨s1, s2⟩, ⟨u1, u2⟩, ⟨f1, f2⟩, ⟨g1, g2⟩⟩ := goodT_range c
  cases hf : t.full
  · have eA : t.ty + t.bits * 256 + t.base * 65536 + t.frm * 65536 * 65536 = numA t := by simp [numA, fullI, hf]; omega
    have eB : t.size + t.used * 65536 + t.badge * 65536 * 65536 = numB t := by simp [numB]; omega
    simp (maxSteps := 1000000) (disch := first | assumption | omega | rfl | decide | simp only [fitsR, Bool.and_self]) [↓rules, rules, ↓rulesDp, rulesDq, lit_u64, Int.ofNat_inj, q_int, q_bool, q_uint64, q_A4_uint64, q_S_uint64, q_reeveref11_Thing, hf, conv_to_u64 tu_int tu_uint64, wrap_i64, eA, eB]
    refine sdone_ret rfl ⟨?_, ((Kept.refl hdom).new _).new _⟩
    rw [putT, if_pos c]; exact rd_row (ws := wordsT t) (if_pos rfl) rfl
  · have eA : t.ty + t.bits * 256 + t.base * 65536 + 16777216 + t.frm * 65536 * 65536 = numA t := by simp [numA, fullI, hf]; omega
    have eB : t.size + t.used * 65536 + t.badge * 65536 * 65536 = numB t := by simp [numB]; omega
    simp (maxSteps := 1000000) (disch := first | assumption | omega | rfl | decide | simp only [fitsR, Bool.and_self]) [↓rules, rules, ↓rulesDp, rulesDq, lit_u64, Int.ofNat_inj, q_int, q_bool, q_uint64, q_A4_uint64, q_S_uint64, q_reeveref11_Thing, hf, conv_to_u64 tu_int tu_uint64, wrap_i64, eA, eB]
    refine sdone_ret rfl ⟨?_, ((Kept.refl hdom).new _).new _⟩
    rw [putT, if_pos c]; exact rd_row (ws := wordsT t) (if_pos rfl) rfl
theorem costT_good (k s b : Int) : True := trivial
end Go.Proofs.Ytafpgojoemcgnaa.F11

namespace Go.Proofs.Ytafpgojoemcgnaa.F11
open Go Go.Proofs Go.Proofs.YtafpgojoemcgnaaAbs
set_option maxHeartbeats 8000000
set_option maxRecDepth 100000
theorem good1 (s : Int) : goodT ⟨1, 0, 0, s, 0, 0, 0, false, 0#64, 0#64, 0#64, 0#64, 0#64⟩ = inI s 1 4096 := by
  simp [goodT, sameT, ownT, noT, inI]
  by_cases h : 1 ≤ s <;> simp [h]; omega
theorem good2 (s b : Int) : goodT ⟨2, s, b, 0, 0, 0, 0, false, 0#64, 0#64, 0#64, 0#64, 0#64⟩ = (inI s 1 4 && inI b 0 (96 - 2 ^ s.toNat)) := by
  simp [goodT, sameT, ownT, noT, inI]
theorem good3 : goodT ⟨3, 0, 0, 0, 0, 0, 0, false, 0#64, 0#64, 0#64, 0#64, 0#64⟩ = true := by decide
theorem good4 : goodT ⟨4, 0, 0, 0, 0, 0, 0, false, 0#64, 0#64, 0#64, 0#64, 0#64⟩ = true := by decide
theorem good5 : goodT ⟨5, 0, 0, 0, 0, 0, 0, false, 0#64, 0#64, 0#64, 0#64, 0#64⟩ = true := by decide
theorem awake_run : xfn Try.prog tab 100 30 f_reevelaw11_awake [] (fun _ => none) 0 = some ⟨.bool true, fun _ => none, 0, 0, true⟩ := by kernel_rfl
theorem awake (g : AMem) (n : Nat) : FnC Try.prog f_reevelaw11_awake [] g n (fun _ => False) (.bool true) g n :=
  FnC.closed (xfn_ok hm tabOk 100 30 _ _ _ _ _ (fun _ h => absurd rfl h) awake_run).2.1 rfl rfl g n
/-- A new one's pure part. -/
theorem newT_says (k s b : Int) : ((newT k s b).2 = false → (newT k s b).1 = noT ∧ ((costT k s).2 = false ∨ k = 2)) ∧
    ((newT k s b).2 = true → (newT k s b).1 = mkT k s b ∧ (costT k s).2 = true ∧ 1 ≤ (costT k s).1 ∧ goodT (mkT k s b) = true ∧ 1 ≤ k ∧ k ≤ 5) := by
  unfold newT
  constructor
  · intro h
    split at h
    · cases h
    · rename_i hn
      rw [if_neg hn]
      refine ⟨rfl, ?_⟩
      by_cases c1 : k = 1
      · subst c1
        refine .inl ?_
        have : ¬ goodT (mkT 1 s b) = true := fun h => hn ⟨by omega, by omega, h⟩
        rw [show mkT 1 s b = ⟨1, 0, 0, s, 0, 0, 0, false, 0#64, 0#64, 0#64, 0#64, 0#64⟩ from rfl, good1] at this
        simp [costT, this]
      by_cases c2 : k = 2
      · exact .inr c2
      by_cases c3 : k = 3
      · subst c3; exact absurd ⟨by omega, by omega, good3⟩ hn
      by_cases c4 : k = 4
      · subst c4; exact absurd ⟨by omega, by omega, good4⟩ hn
      by_cases c5 : k = 5
      · subst c5; exact absurd ⟨by omega, by omega, good5⟩ hn
      refine .inl ?_
      simp [costT, c1, c2, c3, c4, c5]
  · intro h
    split at h
    · rename_i hn
      rw [if_pos hn]
      obtain ⟨h1, h2, h3⟩ := hn
      refine ⟨rfl, ?_⟩
      by_cases c1 : k = 1
      · subst c1
        have h4 := h3
        rw [show mkT 1 s b = ⟨1, 0, 0, s, 0, 0, 0, false, 0#64, 0#64, 0#64, 0#64, 0#64⟩ from rfl, good1] at h4
        refine ⟨by simp [costT, h4], ?_, h3, h1, h2⟩
        simp [inI] at h4
        simp [costT, inI, h4]
      by_cases c2 : k = 2
      · subst c2
        have h4 := h3
        rw [show mkT 2 s b = ⟨2, s, b, 0, 0, 0, 0, false, 0#64, 0#64, 0#64, 0#64, 0#64⟩ from rfl, good2, Bool.and_eq_true] at h4
        refine ⟨by simp [costT, h4.1], ?_, h3, h1, h2⟩
        have := pow_pos2 s.toNat
        simp [costT, h4.1]; omega
      by_cases c3 : k = 3
      · subst c3; exact ⟨rfl, by show (1:Int) ≤ 1; omega, h3, h1, h2⟩
      by_cases c4 : k = 4
      · subst c4; exact ⟨rfl, by show (1:Int) ≤ 1; omega, h3, h1, h2⟩
      have c5 : k = 5 := by omega
      subst c5; exact ⟨rfl, by show (1:Int) ≤ 2; omega, h3, h1, h2⟩
    · cases h
theorem mkT_ty (k s b : Int) : (mkT k s b).ty = k := by unfold mkT; split <;> (try split) <;> rfl
theorem mkT_used (k s b : Int) : (mkT k s b).used = 0 := by unfold mkT; split <;> (try split) <;> rfl
theorem mkT_full (k s b : Int) : (mkT k s b).full = false := by unfold mkT; split <;> (try split) <;> rfl
theorem mkT_word (k s b : Int) : (mkT k s b).word = 0#64 := by unfold mkT; split <;> (try split) <;> rfl
theorem mkT_d (k s b : Int) : (mkT k s b).d0 = 0#64 ∧ (mkT k s b).d1 = 0#64 ∧ (mkT k s b).d2 = 0#64 ∧ (mkT k s b).d3 = 0#64 := by unfold mkT; split <;> (try split) <;> exact ⟨rfl, rfl, rfl, rfl⟩
theorem ThingNew (k s b : Int) (g : AMem) (n : Nat) (_ : ∀ i, g i ≠ none → i < n) (_ : -9223372036854775808 ≤ k) (_ : k ≤ 9223372036854775807) (_ : -9223372036854775808 ≤ s) (_ : s ≤ 9223372036854775807) (_ : -9223372036854775808 ≤ b) (_ : b ≤ 9223372036854775807) :
    FnC Try.prog f_reevelaw11_ThingNew [.int .i64 k, .int .i64 s, .int .i64 b] g n (fun _ => False) (.bool true) g n := by
  refine fnC_of_rwp t_reevelaw11_ThingNew hm rfl fun hdom => ?_
  obtain ⟨p1, p2⟩ := newT_says k s b
  simp (maxSteps := 1000000) (disch := first | assumption | omega | rfl | decide | simp only [fitsR, Bool.and_self]) [↓rules, rules, ↓rulesDp, rulesDq, lit_u64, Int.ofNat_inj, rc_reevelaw11_ThingNew, q_int, q_bool, q_uint64, q_A4_uint64, q_thing_Thing]
  refine rcall_quiet rfl (awake _ _) ?_
  simp (maxSteps := 1000000) (disch := first | assumption | omega | rfl | decide | simp only [fitsR, Bool.and_self]) [↓rules, rules, ↓rulesDp, rulesDq, lit_u64, Int.ofNat_inj, q_int, q_bool, q_uint64, q_A4_uint64, q_thing_Thing]
  refine rcall_quiet rfl (thing_New _ _ _ _ _) ?_
  simp (maxSteps := 1000000) (disch := first | assumption | omega | rfl | decide | simp only [fitsR, Bool.and_self]) [↓rules, rules, ↓rulesDp, rulesDq, lit_u64, Int.ofNat_inj, q_int, q_bool, q_uint64, q_A4_uint64, q_thing_Thing]
  refine rcall_quiet rfl (thing_Cost _ _ _ _) ?_
  cases c : (newT k s b).2
  · obtain ⟨q1, q2⟩ := p1 c
    rw [q1]
    rcases q2 with q2 | q2
    · simp (maxSteps := 1000000) (disch := first | assumption | omega | rfl | decide | simp only [fitsR, Bool.and_self]) [↓rules, rules, ↓rulesDp, rulesDq, lit_u64, Int.ofNat_inj, q_int, q_bool, q_uint64, q_A4_uint64, q_thing_Thing, q2, noT, beq_thing_Thing]
      exact done_q hdom (by repeat first | exact Kept.refl hdom | refine Kept.new ?_ _ | refine Kept.drop ?_ (by omega) | refine Kept.put ?_ (by omega) (by omega) _ | refine Kept.skip ?_) rfl rfl
    · cases c7 : (costT k s).2
      · simp (maxSteps := 1000000) (disch := first | assumption | omega | rfl | decide | simp only [fitsR, Bool.and_self]) [↓rules, rules, ↓rulesDp, rulesDq, lit_u64, Int.ofNat_inj, q_int, q_bool, q_uint64, q_A4_uint64, q_thing_Thing, c7, noT, beq_thing_Thing]
        exact done_q hdom (by repeat first | exact Kept.refl hdom | refine Kept.new ?_ _ | refine Kept.drop ?_ (by omega) | refine Kept.put ?_ (by omega) (by omega) _ | refine Kept.skip ?_) rfl rfl
      · simp (maxSteps := 1000000) (disch := first | assumption | omega | rfl | decide | simp only [fitsR, Bool.and_self]) [↓rules, rules, ↓rulesDp, rulesDq, lit_u64, Int.ofNat_inj, q_int, q_bool, q_uint64, q_A4_uint64, q_thing_Thing, q2, c7, noT, beq_thing_Thing]
        exact done_q hdom (by repeat first | exact Kept.refl hdom | refine Kept.new ?_ _ | refine Kept.drop ?_ (by omega) | refine Kept.put ?_ (by omega) (by omega) _ | refine Kept.skip ?_) rfl rfl
  · obtain ⟨q1, q2, q3, q4, q5, q6⟩ := p2 c
    rw [q1]
    simp (maxSteps := 1000000) (disch := first | assumption | omega | rfl | decide | simp only [fitsR, Bool.and_self]) [↓rules, rules, ↓rulesDp, rulesDq, lit_u64, Int.ofNat_inj, q_int, q_bool, q_uint64, q_A4_uint64, q_thing_Thing, q2, q3]
    refine rcall_quiet rfl (thing_Good (mkT k s b) _ _) ?_
    obtain ⟨m0, m1, m2, m3⟩ := mkT_d k s b
    simp (maxSteps := 1000000) (disch := first | assumption | omega | rfl | decide | simp only [fitsR, Bool.and_self]) [↓rules, rules, ↓rulesDp, rulesDq, lit_u64, Int.ofNat_inj, q_int, q_bool, q_uint64, q_A4_uint64, q_thing_Thing, q4, mkT_ty, mkT_used, mkT_full, mkT_word, m0, m1, m2, m3, beq_A4_uint64]
    exact done_q hdom (by repeat first | exact Kept.refl hdom | refine Kept.new ?_ _ | refine Kept.drop ?_ (by omega) | refine Kept.put ?_ (by omega) (by omega) _ | refine Kept.skip ?_) rfl rfl
end Go.Proofs.Ytafpgojoemcgnaa.F11
