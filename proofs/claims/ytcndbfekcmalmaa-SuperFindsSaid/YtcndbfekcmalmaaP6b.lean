/- Contracts of functions: what each one returns, and what it leaves. No statement is proved here. -/
import Derived.Test.YtcndbfekcmalmaaP6a
set_option linter.unusedVariables false
set_option linter.unusedSimpArgs false
namespace Go.Proofs.Ytcndbfekcmalmaa.F6
open Go Go.Proofs Go.Proofs.YtcndbfekcmalmaaAbs
set_option maxRecDepth 100000
abbrev gv (a b c : Int) : Value := .agg #[.int .i64 a, .int .i64 b, .int .i64 c]
def goodG (a b c : Int) : Bool := decide (1 ≤ a ∧ a ≤ 4 ∧ 8 * a ≤ b ∧ b ≤ 96 ∧ b % 8 = 0 ∧ a + 2 ≤ c ∧ c ≤ 48)
theorem goodG_iff {a b c : Int} : goodG a b c = true ↔ 1 ≤ a ∧ a ≤ 4 ∧ 8 * a ≤ b ∧ b ≤ 96 ∧ b % 8 = 0 ∧ a + 2 ≤ c ∧ c ≤ 48 := by unfold goodG; simp
theorem goodG_no {a b c : Int} (h : ¬ (1 ≤ a ∧ a ≤ 4 ∧ 8 * a ≤ b ∧ b ≤ 96 ∧ b % 8 = 0 ∧ a + 2 ≤ c ∧ c ≤ 48)) : goodG a b c = false := by unfold goodG; simpa using h
theorem inG (x lo hi : Int) (g : AMem) (n : Nat) : FnC Try.prog f_geo_in [.int .i64 x, .int .i64 lo, .int .i64 hi] g n (fun _ => False) (.bool (decide (lo ≤ x ∧ x ≤ hi))) g n := by
  refine fnC_of_rwp t_geo_in hm rfl fun hdom => ?_
  by_cases c : lo ≤ x
  · simp (maxSteps := 1000000) (disch := first | assumption | omega | rfl | decide) [↓rules, rules, lit_u64, aEval_U, splice_nil, splice_zero, splice_step, gset_gset, Int.ofNat_inj, U_junk, U_cells, U_cellOk, ub_and, ub_or, ub_xor, ub_andNot, ub_add, ub_sub, ub_mul, ub_shl, ub_shr, ub_shl', ub_shr', ub_eql, ub_neq, ub_lss, ub_leq, ub_gtr, ub_geq, rc_geo_in, c]
    refine done_q hdom (Kept.refl hdom) ?_ ?_ <;> rfl
  · simp (maxSteps := 1000000) (disch := first | assumption | omega | rfl | decide) [↓rules, rules, lit_u64, aEval_U, splice_nil, splice_zero, splice_step, gset_gset, Int.ofNat_inj, U_junk, U_cells, U_cellOk, ub_and, ub_or, ub_xor, ub_andNot, ub_add, ub_sub, ub_mul, ub_shl, ub_shr, ub_shl', ub_shr', ub_eql, ub_neq, ub_lss, ub_leq, ub_gtr, ub_geq, rc_geo_in, c]
    refine done_q hdom (Kept.refl hdom) ?_ ?_ <;> rfl
theorem GoodG (a b c : Int) (g : AMem) (n : Nat) : FnC Try.prog f_geo_Good [gv a b c] g n (fun _ => False) (.bool (goodG a b c)) g n := by
  refine fnC_of_rwp t_geo_Good hm rfl fun hdom => ?_
  have kn := (Kept.refl hdom).new (.row [.int .i64 a, .int .i64 b, .int .i64 c] true)
  simp (maxSteps := 1000000) (disch := first | assumption | omega | rfl | decide) [↓rules, rules, lit_u64, aEval_U, splice_nil, splice_zero, splice_step, gset_gset, Int.ofNat_inj, U_junk, U_cells, U_cellOk, ub_and, ub_or, ub_xor, ub_andNot, ub_add, ub_sub, ub_mul, ub_shl, ub_shr, ub_shl', ub_shr', ub_eql, ub_neq, ub_lss, ub_leq, ub_gtr, ub_geq, rc_geo_Good, tf_geo_Geo_Threads, tf_geo_Geo_Slots, tf_geo_Geo_Things, ta_int, ts_int]
  refine rcall_quiet rfl (inG _ _ _ _ _) ?_
  by_cases c1 : 1 ≤ a ∧ a ≤ 4
  case neg =>
    simp (maxSteps := 1000000) (disch := first | assumption | omega | rfl | decide) [↓rules, rules, lit_u64, aEval_U, splice_nil, splice_zero, splice_step, gset_gset, Int.ofNat_inj, U_junk, U_cells, U_cellOk, ub_and, ub_or, ub_xor, ub_andNot, ub_add, ub_sub, ub_mul, ub_shl, ub_shr, ub_shl', ub_shr', ub_eql, ub_neq, ub_lss, ub_leq, ub_gtr, ub_geq, c1]
    refine done_q hdom kn ?_ ?_; · rfl
    rw [goodG_no (by omega)]; rfl
  have e1 : IntKind.i64.wrap (8 * a) = 8 * a := wrap_i64 (by omega) (by omega)
  have e2 : IntKind.i64.wrap (a + 2) = a + 2 := wrap_i64 (by omega) (by omega)
  simp (maxSteps := 1000000) (disch := first | assumption | omega | rfl | decide) [↓rules, rules, lit_u64, aEval_U, splice_nil, splice_zero, splice_step, gset_gset, Int.ofNat_inj, U_junk, U_cells, U_cellOk, ub_and, ub_or, ub_xor, ub_andNot, ub_add, ub_sub, ub_mul, ub_shl, ub_shr, ub_shl', ub_shr', ub_eql, ub_neq, ub_lss, ub_leq, ub_gtr, ub_geq, c1, tf_geo_Geo_Threads, tf_geo_Geo_Slots, tf_geo_Geo_Things, ta_int, ts_int, e1]
  refine rcall_quiet rfl (inG _ _ _ _ _) ?_
  by_cases c2 : 8 * a ≤ b ∧ b ≤ 96
  case neg =>
    simp (maxSteps := 1000000) (disch := first | assumption | omega | rfl | decide) [↓rules, rules, lit_u64, aEval_U, splice_nil, splice_zero, splice_step, gset_gset, Int.ofNat_inj, U_junk, U_cells, U_cellOk, ub_and, ub_or, ub_xor, ub_andNot, ub_add, ub_sub, ub_mul, ub_shl, ub_shr, ub_shl', ub_shr', ub_eql, ub_neq, ub_lss, ub_leq, ub_gtr, ub_geq, c2]
    refine done_q hdom kn ?_ ?_; · rfl
    rw [goodG_no (by omega)]; rfl
  have e3 : b.tmod 8 = b % 8 := Int.tmod_eq_emod_of_nonneg (by omega)
  by_cases c3 : b % 8 = 0
  case neg =>
    simp (maxSteps := 1000000) (disch := first | assumption | omega | rfl | decide) [↓rules, rules, lit_u64, aEval_U, splice_nil, splice_zero, splice_step, gset_gset, Int.ofNat_inj, U_junk, U_cells, U_cellOk, ub_and, ub_or, ub_xor, ub_andNot, ub_add, ub_sub, ub_mul, ub_shl, ub_shr, ub_shl', ub_shr', ub_eql, ub_neq, ub_lss, ub_leq, ub_gtr, ub_geq, c2, tf_geo_Geo_Threads, tf_geo_Geo_Slots, tf_geo_Geo_Things, ta_int, ts_int, bin_rem, e3, c3]
    refine done_q hdom kn ?_ ?_; · rfl
    rw [goodG_no (by omega)]; rfl
  simp (maxSteps := 1000000) (disch := first | assumption | omega | rfl | decide) [↓rules, rules, lit_u64, aEval_U, splice_nil, splice_zero, splice_step, gset_gset, Int.ofNat_inj, U_junk, U_cells, U_cellOk, ub_and, ub_or, ub_xor, ub_andNot, ub_add, ub_sub, ub_mul, ub_shl, ub_shr, ub_shl', ub_shr', ub_eql, ub_neq, ub_lss, ub_leq, ub_gtr, ub_geq, c2, tf_geo_Geo_Threads, tf_geo_Geo_Slots, tf_geo_Geo_Things, ta_int, ts_int, bin_rem, e3, c3, e2]
  refine rcall_quiet rfl (inG _ _ _ _ _) ?_
  simp (maxSteps := 1000000) (disch := first | assumption | omega | rfl | decide) [↓rules, rules, lit_u64, aEval_U, splice_nil, splice_zero, splice_step, gset_gset, Int.ofNat_inj, U_junk, U_cells, U_cellOk, ub_and, ub_or, ub_xor, ub_andNot, ub_add, ub_sub, ub_mul, ub_shl, ub_shr, ub_shl', ub_shr', ub_eql, ub_neq, ub_lss, ub_leq, ub_gtr, ub_geq]
  refine done_q hdom kn ?_ ?_; · rfl
  have : goodG a b c = decide (a + 2 ≤ c ∧ c ≤ 48) := by unfold goodG; rw [decide_eq_decide]; omega
  rw [this, Bool.decide_and]; rfl
theorem long (g : AMem) (n : Nat) : FnC Try.prog f_reeveref1_long [] g n (fun _ => False) (.int .i64 1208) g n := by
  refine fnC_of_rwp t_reeveref1_long hm rfl fun hdom => ?_
  simp (maxSteps := 1000000) (disch := first | assumption | omega | rfl | decide) [↓rules, rules, lit_u64, aEval_U, splice_nil, splice_zero, splice_step, gset_gset, Int.ofNat_inj, U_junk, U_cells, U_cellOk, ub_and, ub_or, ub_xor, ub_andNot, ub_add, ub_sub, ub_mul, ub_shl, ub_shr, ub_shl', ub_shr', ub_eql, ub_neq, ub_lss, ub_leq, ub_gtr, ub_geq, rc_reeveref1_long]
  refine done_q hdom (Kept.refl hdom) ?_ ?_ <;> rfl
theorem slotsAt (a b c : Int) (ha : 1 ≤ a ∧ a ≤ 4) (g : AMem) (n : Nat) : FnC Try.prog f_geo_slotsAt [gv a b c] g n (fun _ => False) (.int .i64 (16 + a * 1208)) g n := by
  refine fnC_of_rwp t_geo_slotsAt hm rfl fun hdom => ?_
  have kn := (Kept.refl hdom).new (.row [.int .i64 a, .int .i64 b, .int .i64 c] true)
  have e1 : IntKind.i64.wrap (a * 1208) = a * 1208 := wrap_i64 (by omega) (by omega)
  have e2 : IntKind.i64.wrap (16 + a * 1208) = 16 + a * 1208 := wrap_i64 (by omega) (by omega)
  simp (maxSteps := 1000000) (disch := first | assumption | omega | rfl | decide) [↓rules, rules, lit_u64, aEval_U, splice_nil, splice_zero, splice_step, gset_gset, Int.ofNat_inj, U_junk, U_cells, U_cellOk, ub_and, ub_or, ub_xor, ub_andNot, ub_add, ub_sub, ub_mul, ub_shl, ub_shr, ub_shl', ub_shr', ub_eql, ub_neq, ub_lss, ub_leq, ub_gtr, ub_geq, rc_geo_slotsAt, tf_geo_Geo_Threads, tf_geo_Geo_Slots, tf_geo_Geo_Things, ta_int, ts_int, ta_geo_Geo, ts_geo_Geo, e1, e2]
  refine done_q hdom kn ?_ ?_ <;> rfl
theorem slotsR (a b c : Int) (ha : 1 ≤ a ∧ a ≤ 4) (g : AMem) (n : Nat) : FnC Try.prog f_reeveref1_slots [gv a b c] g n (fun _ => False) (.int .i64 (16 + a * 1208)) g n := by
  refine fnC_of_rwp t_reeveref1_slots hm rfl fun hdom => ?_
  have kn := (Kept.refl hdom).new (.row [.int .i64 a, .int .i64 b, .int .i64 c] true)
  have e1 : IntKind.i64.wrap (a * 1208) = a * 1208 := wrap_i64 (by omega) (by omega)
  have e2 : IntKind.i64.wrap (16 + a * 1208) = 16 + a * 1208 := wrap_i64 (by omega) (by omega)
  simp (maxSteps := 1000000) (disch := first | assumption | omega | rfl | decide) [↓rules, rules, lit_u64, aEval_U, splice_nil, splice_zero, splice_step, gset_gset, Int.ofNat_inj, U_junk, U_cells, U_cellOk, ub_and, ub_or, ub_xor, ub_andNot, ub_add, ub_sub, ub_mul, ub_shl, ub_shr, ub_shl', ub_shr', ub_eql, ub_neq, ub_lss, ub_leq, ub_gtr, ub_geq, rc_reeveref1_slots, tf_reeveref1_Geo_Threads, tf_reeveref1_Geo_Slots, tf_reeveref1_Geo_Things, ta_int, ts_int, ta_reeveref1_Geo, ts_reeveref1_Geo]
  refine rcall_quiet rfl (long _ _) ?_
  simp (maxSteps := 1000000) (disch := first | assumption | omega | rfl | decide) [↓rules, rules, lit_u64, aEval_U, splice_nil, splice_zero, splice_step, gset_gset, Int.ofNat_inj, U_junk, U_cells, U_cellOk, ub_and, ub_or, ub_xor, ub_andNot, ub_add, ub_sub, ub_mul, ub_shl, ub_shr, ub_shl', ub_shr', ub_eql, ub_neq, ub_lss, ub_leq, ub_gtr, ub_geq, e1, e2]
  refine done_q hdom kn ?_ ?_ <;> rfl
theorem thingsAt (a b c : Int) (ha : 1 ≤ a ∧ a ≤ 4) (hb : 0 ≤ b ∧ b ≤ 96) (g : AMem) (n : Nat) : FnC Try.prog f_geo_thingsAt [gv a b c] g n (fun _ => False) (.int .i64 (16 + a * 1208 + 2 * b)) g n := by
  refine fnC_of_rwp t_geo_thingsAt hm rfl fun hdom => ?_
  have kn := (Kept.refl hdom).new (.row [.int .i64 a, .int .i64 b, .int .i64 c] true)
  have e1 : IntKind.i64.wrap (2 * b) = 2 * b := wrap_i64 (by omega) (by omega)
  have e2 : IntKind.i64.wrap (16 + a * 1208 + 2 * b) = 16 + a * 1208 + 2 * b := wrap_i64 (by omega) (by omega)
  simp (maxSteps := 1000000) (disch := first | assumption | omega | rfl | decide) [↓rules, rules, lit_u64, aEval_U, splice_nil, splice_zero, splice_step, gset_gset, Int.ofNat_inj, U_junk, U_cells, U_cellOk, ub_and, ub_or, ub_xor, ub_andNot, ub_add, ub_sub, ub_mul, ub_shl, ub_shr, ub_shl', ub_shr', ub_eql, ub_neq, ub_lss, ub_leq, ub_gtr, ub_geq, rc_geo_thingsAt, tf_geo_Geo_Threads, tf_geo_Geo_Slots, tf_geo_Geo_Things, ta_int, ts_int, ta_geo_Geo, ts_geo_Geo]
  refine rcall_quiet rfl (slotsAt a b c ha _ _) ?_
  simp (maxSteps := 1000000) (disch := first | assumption | omega | rfl | decide) [↓rules, rules, lit_u64, aEval_U, splice_nil, splice_zero, splice_step, gset_gset, Int.ofNat_inj, U_junk, U_cells, U_cellOk, ub_and, ub_or, ub_xor, ub_andNot, ub_add, ub_sub, ub_mul, ub_shl, ub_shr, ub_shl', ub_shr', ub_eql, ub_neq, ub_lss, ub_leq, ub_gtr, ub_geq, tf_geo_Geo_Threads, tf_geo_Geo_Slots, tf_geo_Geo_Things, ta_int, ts_int, ta_geo_Geo, ts_geo_Geo, e1, e2]
  refine done_q hdom kn ?_ ?_ <;> rfl
theorem GoodR (a b c : Int) (g : AMem) (n : Nat) : FnC Try.prog f_reeveref1_GoodGeo [gv a b c] g n (fun _ => False) (.bool (goodG a b c)) g n := by
  refine fnC_of_rwp t_reeveref1_GoodGeo hm rfl fun hdom => ?_
  have kn := (Kept.refl hdom).new (.row [.int .i64 a, .int .i64 b, .int .i64 c] true)
  by_cases c1 : 1 ≤ a
  case neg =>
    simp (maxSteps := 1000000) (disch := first | assumption | omega | rfl | decide) [↓rules, rules, lit_u64, aEval_U, splice_nil, splice_zero, splice_step, gset_gset, Int.ofNat_inj, U_junk, U_cells, U_cellOk, ub_and, ub_or, ub_xor, ub_andNot, ub_add, ub_sub, ub_mul, ub_shl, ub_shr, ub_shl', ub_shr', ub_eql, ub_neq, ub_lss, ub_leq, ub_gtr, ub_geq, rc_reeveref1_GoodGeo, tf_reeveref1_Geo_Threads, tf_reeveref1_Geo_Slots, tf_reeveref1_Geo_Things, ta_int, ts_int, ta_reeveref1_Geo, ts_reeveref1_Geo, c1]
    refine done_q hdom kn ?_ ?_; · rfl
    rw [goodG_no (by omega)]; rfl
  by_cases c2 : a ≤ 4
  case neg =>
    simp (maxSteps := 1000000) (disch := first | assumption | omega | rfl | decide) [↓rules, rules, lit_u64, aEval_U, splice_nil, splice_zero, splice_step, gset_gset, Int.ofNat_inj, U_junk, U_cells, U_cellOk, ub_and, ub_or, ub_xor, ub_andNot, ub_add, ub_sub, ub_mul, ub_shl, ub_shr, ub_shl', ub_shr', ub_eql, ub_neq, ub_lss, ub_leq, ub_gtr, ub_geq, rc_reeveref1_GoodGeo, tf_reeveref1_Geo_Threads, tf_reeveref1_Geo_Slots, tf_reeveref1_Geo_Things, ta_int, ts_int, ta_reeveref1_Geo, ts_reeveref1_Geo, c1, c2]
    refine done_q hdom kn ?_ ?_; · rfl
    rw [goodG_no (by omega)]; rfl
  have e1 : IntKind.i64.wrap (8 * a) = 8 * a := wrap_i64 (by omega) (by omega)
  have e2 : IntKind.i64.wrap (a + 2) = a + 2 := wrap_i64 (by omega) (by omega)
  by_cases c3 : 8 * a ≤ b
  case neg =>
    simp (maxSteps := 1000000) (disch := first | assumption | omega | rfl | decide) [↓rules, rules, lit_u64, aEval_U, splice_nil, splice_zero, splice_step, gset_gset, Int.ofNat_inj, U_junk, U_cells, U_cellOk, ub_and, ub_or, ub_xor, ub_andNot, ub_add, ub_sub, ub_mul, ub_shl, ub_shr, ub_shl', ub_shr', ub_eql, ub_neq, ub_lss, ub_leq, ub_gtr, ub_geq, rc_reeveref1_GoodGeo, tf_reeveref1_Geo_Threads, tf_reeveref1_Geo_Slots, tf_reeveref1_Geo_Things, ta_int, ts_int, ta_reeveref1_Geo, ts_reeveref1_Geo, c1, c2, c3, e1]
    refine done_q hdom kn ?_ ?_; · rfl
    rw [goodG_no (by omega)]; rfl
  by_cases c4 : b ≤ 96
  case neg =>
    simp (maxSteps := 1000000) (disch := first | assumption | omega | rfl | decide) [↓rules, rules, lit_u64, aEval_U, splice_nil, splice_zero, splice_step, gset_gset, Int.ofNat_inj, U_junk, U_cells, U_cellOk, ub_and, ub_or, ub_xor, ub_andNot, ub_add, ub_sub, ub_mul, ub_shl, ub_shr, ub_shl', ub_shr', ub_eql, ub_neq, ub_lss, ub_leq, ub_gtr, ub_geq, rc_reeveref1_GoodGeo, tf_reeveref1_Geo_Threads, tf_reeveref1_Geo_Slots, tf_reeveref1_Geo_Things, ta_int, ts_int, ta_reeveref1_Geo, ts_reeveref1_Geo, c1, c2, c3, c4, e1]
    refine done_q hdom kn ?_ ?_; · rfl
    rw [goodG_no (by omega)]; rfl
  have e3 : b.tmod 8 = b % 8 := Int.tmod_eq_emod_of_nonneg (by omega)
  by_cases c5 : b % 8 = 0
  case neg =>
    simp (maxSteps := 1000000) (disch := first | assumption | omega | rfl | decide) [↓rules, rules, lit_u64, aEval_U, splice_nil, splice_zero, splice_step, gset_gset, Int.ofNat_inj, U_junk, U_cells, U_cellOk, ub_and, ub_or, ub_xor, ub_andNot, ub_add, ub_sub, ub_mul, ub_shl, ub_shr, ub_shl', ub_shr', ub_eql, ub_neq, ub_lss, ub_leq, ub_gtr, ub_geq, rc_reeveref1_GoodGeo, tf_reeveref1_Geo_Threads, tf_reeveref1_Geo_Slots, tf_reeveref1_Geo_Things, ta_int, ts_int, ta_reeveref1_Geo, ts_reeveref1_Geo, c1, c2, c3, c4, c5, e1, e3, bin_rem]
    refine done_q hdom kn ?_ ?_; · rfl
    rw [goodG_no (by omega)]; rfl
  by_cases c6 : a + 2 ≤ c
  case neg =>
    simp (maxSteps := 1000000) (disch := first | assumption | omega | rfl | decide) [↓rules, rules, lit_u64, aEval_U, splice_nil, splice_zero, splice_step, gset_gset, Int.ofNat_inj, U_junk, U_cells, U_cellOk, ub_and, ub_or, ub_xor, ub_andNot, ub_add, ub_sub, ub_mul, ub_shl, ub_shr, ub_shl', ub_shr', ub_eql, ub_neq, ub_lss, ub_leq, ub_gtr, ub_geq, rc_reeveref1_GoodGeo, tf_reeveref1_Geo_Threads, tf_reeveref1_Geo_Slots, tf_reeveref1_Geo_Things, ta_int, ts_int, ta_reeveref1_Geo, ts_reeveref1_Geo, c1, c2, c3, c4, c5, c6, e1, e2, e3, bin_rem]
    refine done_q hdom kn ?_ ?_; · rfl
    rw [goodG_no (by omega)]; rfl
  simp (maxSteps := 1000000) (disch := first | assumption | omega | rfl | decide) [↓rules, rules, lit_u64, aEval_U, splice_nil, splice_zero, splice_step, gset_gset, Int.ofNat_inj, U_junk, U_cells, U_cellOk, ub_and, ub_or, ub_xor, ub_andNot, ub_add, ub_sub, ub_mul, ub_shl, ub_shr, ub_shl', ub_shr', ub_eql, ub_neq, ub_lss, ub_leq, ub_gtr, ub_geq, rc_reeveref1_GoodGeo, tf_reeveref1_Geo_Threads, tf_reeveref1_Geo_Slots, tf_reeveref1_Geo_Things, ta_int, ts_int, ta_reeveref1_Geo, ts_reeveref1_Geo, c1, c2, c3, c4, c5, c6, e1, e2, e3, bin_rem]
  refine done_q hdom kn ?_ ?_; · rfl
  have : goodG a b c = decide (c ≤ 48) := by unfold goodG; rw [decide_eq_decide]; omega
  rw [this]; rfl
def copyG (a b c : Int) : Int := if goodG a b c = true then 16 + a * 1208 + 2 * b + 8 * c else 0
def rowsG (a b c : Int) : Int := if goodG a b c = true then copyG a b c / 8 + 1 else 0
def lockG (a b c : Int) : Int := if goodG a b c = true then 8 else 0
def descG (a b c i : Int) : Int × Int := if goodG a b c = true ∧ 0 ≤ i ∧ i < a then (16 + i * 1208, 1208) else (0, 0)
def slotG (a b c i : Int) : Int := if goodG a b c = true ∧ 0 ≤ i ∧ i < b then 16 + a * 1208 + 2 * i else 0
def thingG (a b c i : Int) : Int := if goodG a b c = true ∧ 0 ≤ i ∧ i < c then 16 + a * 1208 + 2 * b + 8 * i else 0
def rootG (a b c i : Int) : Int := if goodG a b c = true ∧ 0 ≤ i ∧ i < a then 8 * i else 0
theorem CopyG (a b c : Int) (g : AMem) (n : Nat) : FnC Try.prog f_geo_Copy [gv a b c] g n (fun _ => False) (.int .i64 (copyG a b c)) g n := by
  refine fnC_of_rwp t_geo_Copy hm rfl fun hdom => ?_
  have kn := (Kept.refl hdom).new (.row [.int .i64 a, .int .i64 b, .int .i64 c] true)
  simp (maxSteps := 1000000) (disch := first | assumption | omega | rfl | decide) [↓rules, rules, lit_u64, aEval_U, splice_nil, splice_zero, splice_step, gset_gset, Int.ofNat_inj, U_junk, U_cells, U_cellOk, ub_and, ub_or, ub_xor, ub_andNot, ub_add, ub_sub, ub_mul, ub_shl, ub_shr, ub_shl', ub_shr', ub_eql, ub_neq, ub_lss, ub_leq, ub_gtr, ub_geq, rc_geo_Copy, tf_geo_Geo_Threads, tf_geo_Geo_Slots, tf_geo_Geo_Things, ta_int, ts_int, ta_geo_Geo, ts_geo_Geo]
  refine rcall_quiet rfl (GoodG _ _ _ _ _) ?_
  cases hg : goodG a b c
  · simp (maxSteps := 1000000) (disch := first | assumption | omega | rfl | decide) [↓rules, rules, lit_u64, aEval_U, splice_nil, splice_zero, splice_step, gset_gset, Int.ofNat_inj, U_junk, U_cells, U_cellOk, ub_and, ub_or, ub_xor, ub_andNot, ub_add, ub_sub, ub_mul, ub_shl, ub_shr, ub_shl', ub_shr', ub_eql, ub_neq, ub_lss, ub_leq, ub_gtr, ub_geq]
    refine done_q hdom kn ?_ ?_; · rfl
    rw [copyG, hg]; rfl
  have ok := goodG_iff.1 hg
  have e1 : IntKind.i64.wrap (8 * c) = 8 * c := wrap_i64 (by omega) (by omega)
  have e2 : IntKind.i64.wrap (16 + a * 1208 + 2 * b + 8 * c) = 16 + a * 1208 + 2 * b + 8 * c := wrap_i64 (by omega) (by omega)
  have e3 : IntKind.i64.wrap (2 * b) = 2 * b := wrap_i64 (by omega) (by omega)
  have e4 : IntKind.i64.wrap (16 + a * 1208 + 2 * b) = 16 + a * 1208 + 2 * b := wrap_i64 (by omega) (by omega)
  simp (maxSteps := 1000000) (disch := first | assumption | omega | rfl | decide) [↓rules, rules, lit_u64, aEval_U, splice_nil, splice_zero, splice_step, gset_gset, Int.ofNat_inj, U_junk, U_cells, U_cellOk, ub_and, ub_or, ub_xor, ub_andNot, ub_add, ub_sub, ub_mul, ub_shl, ub_shr, ub_shl', ub_shr', ub_eql, ub_neq, ub_lss, ub_leq, ub_gtr, ub_geq, tf_geo_Geo_Threads, tf_geo_Geo_Slots, tf_geo_Geo_Things, ta_int, ts_int, ta_geo_Geo, ts_geo_Geo]
  refine rcall_quiet rfl (thingsAt a b c (by omega) (by omega) _ _) ?_
  simp (maxSteps := 1000000) (disch := first | assumption | omega | rfl | decide) [↓rules, rules, lit_u64, aEval_U, splice_nil, splice_zero, splice_step, gset_gset, Int.ofNat_inj, U_junk, U_cells, U_cellOk, ub_and, ub_or, ub_xor, ub_andNot, ub_add, ub_sub, ub_mul, ub_shl, ub_shr, ub_shl', ub_shr', ub_eql, ub_neq, ub_lss, ub_leq, ub_gtr, ub_geq, tf_geo_Geo_Threads, tf_geo_Geo_Slots, tf_geo_Geo_Things, ta_int, ts_int, ta_geo_Geo, ts_geo_Geo, e1, e2, e3, e4]
  refine done_q hdom kn ?_ ?_; · rfl
  rw [copyG, if_pos hg]; rfl
theorem CopyR (a b c : Int) (g : AMem) (n : Nat) : FnC Try.prog f_reeveref1_Copy [gv a b c] g n (fun _ => False) (.int .i64 (copyG a b c)) g n := by
  refine fnC_of_rwp t_reeveref1_Copy hm rfl fun hdom => ?_
  have kn := (Kept.refl hdom).new (.row [.int .i64 a, .int .i64 b, .int .i64 c] true)
  simp (maxSteps := 1000000) (disch := first | assumption | omega | rfl | decide) [↓rules, rules, lit_u64, aEval_U, splice_nil, splice_zero, splice_step, gset_gset, Int.ofNat_inj, U_junk, U_cells, U_cellOk, ub_and, ub_or, ub_xor, ub_andNot, ub_add, ub_sub, ub_mul, ub_shl, ub_shr, ub_shl', ub_shr', ub_eql, ub_neq, ub_lss, ub_leq, ub_gtr, ub_geq, rc_reeveref1_Copy, tf_reeveref1_Geo_Threads, tf_reeveref1_Geo_Slots, tf_reeveref1_Geo_Things, ta_int, ts_int, ta_reeveref1_Geo, ts_reeveref1_Geo]
  refine rcall_quiet rfl (GoodR _ _ _ _ _) ?_
  cases hg : goodG a b c
  · simp (maxSteps := 1000000) (disch := first | assumption | omega | rfl | decide) [↓rules, rules, lit_u64, aEval_U, splice_nil, splice_zero, splice_step, gset_gset, Int.ofNat_inj, U_junk, U_cells, U_cellOk, ub_and, ub_or, ub_xor, ub_andNot, ub_add, ub_sub, ub_mul, ub_shl, ub_shr, ub_shl', ub_shr', ub_eql, ub_neq, ub_lss, ub_leq, ub_gtr, ub_geq]
    refine done_q hdom kn ?_ ?_; · rfl
    rw [copyG, hg]; rfl
  have ok := goodG_iff.1 hg
  have e1 : IntKind.i64.wrap (8 * c) = 8 * c := wrap_i64 (by omega) (by omega)
  have e2 : IntKind.i64.wrap (16 + a * 1208 + 2 * b + 8 * c) = 16 + a * 1208 + 2 * b + 8 * c := wrap_i64 (by omega) (by omega)
  have e3 : IntKind.i64.wrap (2 * b) = 2 * b := wrap_i64 (by omega) (by omega)
  have e4 : IntKind.i64.wrap (16 + a * 1208 + 2 * b) = 16 + a * 1208 + 2 * b := wrap_i64 (by omega) (by omega)
  simp (maxSteps := 1000000) (disch := first | assumption | omega | rfl | decide) [↓rules, rules, lit_u64, aEval_U, splice_nil, splice_zero, splice_step, gset_gset, Int.ofNat_inj, U_junk, U_cells, U_cellOk, ub_and, ub_or, ub_xor, ub_andNot, ub_add, ub_sub, ub_mul, ub_shl, ub_shr, ub_shl', ub_shr', ub_eql, ub_neq, ub_lss, ub_leq, ub_gtr, ub_geq, tf_reeveref1_Geo_Threads, tf_reeveref1_Geo_Slots, tf_reeveref1_Geo_Things, ta_int, ts_int, ta_reeveref1_Geo, ts_reeveref1_Geo]
  refine rcall_quiet rfl (slotsR a b c (by omega) _ _) ?_
  simp (maxSteps := 1000000) (disch := first | assumption | omega | rfl | decide) [↓rules, rules, lit_u64, aEval_U, splice_nil, splice_zero, splice_step, gset_gset, Int.ofNat_inj, U_junk, U_cells, U_cellOk, ub_and, ub_or, ub_xor, ub_andNot, ub_add, ub_sub, ub_mul, ub_shl, ub_shr, ub_shl', ub_shr', ub_eql, ub_neq, ub_lss, ub_leq, ub_gtr, ub_geq, tf_reeveref1_Geo_Threads, tf_reeveref1_Geo_Slots, tf_reeveref1_Geo_Things, ta_int, ts_int, ta_reeveref1_Geo, ts_reeveref1_Geo, e1, e2, e3, e4]
  refine done_q hdom kn ?_ ?_; · rfl
  rw [copyG, if_pos hg]; rfl
theorem RowsG (a b c : Int) (g : AMem) (n : Nat) : FnC Try.prog f_geo_Rows [gv a b c] g n (fun _ => False) (.int .i64 (rowsG a b c)) g n := by
  refine fnC_of_rwp t_geo_Rows hm rfl fun hdom => ?_
  have kn := (Kept.refl hdom).new (.row [.int .i64 a, .int .i64 b, .int .i64 c] true)
  simp (maxSteps := 1000000) (disch := first | assumption | omega | rfl | decide) [↓rules, rules, lit_u64, aEval_U, splice_nil, splice_zero, splice_step, gset_gset, Int.ofNat_inj, U_junk, U_cells, U_cellOk, ub_and, ub_or, ub_xor, ub_andNot, ub_add, ub_sub, ub_mul, ub_shl, ub_shr, ub_shl', ub_shr', ub_eql, ub_neq, ub_lss, ub_leq, ub_gtr, ub_geq, rc_geo_Rows, tf_geo_Geo_Threads, tf_geo_Geo_Slots, tf_geo_Geo_Things, ta_int, ts_int, ta_geo_Geo, ts_geo_Geo]
  refine rcall_quiet rfl (GoodG _ _ _ _ _) ?_
  cases hg : goodG a b c
  · simp (maxSteps := 1000000) (disch := first | assumption | omega | rfl | decide) [↓rules, rules, lit_u64, aEval_U, splice_nil, splice_zero, splice_step, gset_gset, Int.ofNat_inj, U_junk, U_cells, U_cellOk, ub_and, ub_or, ub_xor, ub_andNot, ub_add, ub_sub, ub_mul, ub_shl, ub_shr, ub_shl', ub_shr', ub_eql, ub_neq, ub_lss, ub_leq, ub_gtr, ub_geq]
    refine done_q hdom kn ?_ ?_; · rfl
    rw [rowsG, hg]; rfl
  have ok := goodG_iff.1 hg
  simp (maxSteps := 1000000) (disch := first | assumption | omega | rfl | decide) [↓rules, rules, lit_u64, aEval_U, splice_nil, splice_zero, splice_step, gset_gset, Int.ofNat_inj, U_junk, U_cells, U_cellOk, ub_and, ub_or, ub_xor, ub_andNot, ub_add, ub_sub, ub_mul, ub_shl, ub_shr, ub_shl', ub_shr', ub_eql, ub_neq, ub_lss, ub_leq, ub_gtr, ub_geq, tf_geo_Geo_Threads, tf_geo_Geo_Slots, tf_geo_Geo_Things, ta_int, ts_int, ta_geo_Geo, ts_geo_Geo]
  refine rcall_quiet rfl (CopyG a b c _ _) ?_
  have hc : 0 ≤ copyG a b c ∧ copyG a b c ≤ 10000 := by rw [copyG, if_pos hg]; omega
  have e1 : IntKind.i64.wrap ((copyG a b c).tdiv 8) = copyG a b c / 8 := by
    rw [Int.tdiv_eq_ediv_of_nonneg hc.1]; exact wrap_i64 (by omega) (by omega)
  have e2 : IntKind.i64.wrap (copyG a b c / 8 + 1) = copyG a b c / 8 + 1 := wrap_i64 (by omega) (by omega)
  simp (maxSteps := 1000000) (disch := first | assumption | omega | rfl | decide) [↓rules, rules, lit_u64, aEval_U, splice_nil, splice_zero, splice_step, gset_gset, Int.ofNat_inj, U_junk, U_cells, U_cellOk, ub_and, ub_or, ub_xor, ub_andNot, ub_add, ub_sub, ub_mul, ub_shl, ub_shr, ub_shl', ub_shr', ub_eql, ub_neq, ub_lss, ub_leq, ub_gtr, ub_geq, bin_quo, e1, e2]
  refine done_q hdom kn ?_ ?_; · rfl
  rw [rowsG, if_pos hg]; rfl
theorem RowsR (a b c : Int) (g : AMem) (n : Nat) : FnC Try.prog f_reeveref1_Rows [gv a b c] g n (fun _ => False) (.int .i64 (rowsG a b c)) g n := by
  refine fnC_of_rwp t_reeveref1_Rows hm rfl fun hdom => ?_
  have kn := (Kept.refl hdom).new (.row [.int .i64 a, .int .i64 b, .int .i64 c] true)
  simp (maxSteps := 1000000) (disch := first | assumption | omega | rfl | decide) [↓rules, rules, lit_u64, aEval_U, splice_nil, splice_zero, splice_step, gset_gset, Int.ofNat_inj, U_junk, U_cells, U_cellOk, ub_and, ub_or, ub_xor, ub_andNot, ub_add, ub_sub, ub_mul, ub_shl, ub_shr, ub_shl', ub_shr', ub_eql, ub_neq, ub_lss, ub_leq, ub_gtr, ub_geq, rc_reeveref1_Rows, tf_reeveref1_Geo_Threads, tf_reeveref1_Geo_Slots, tf_reeveref1_Geo_Things, ta_int, ts_int, ta_reeveref1_Geo, ts_reeveref1_Geo]
  refine rcall_quiet rfl (GoodR _ _ _ _ _) ?_
  cases hg : goodG a b c
  · simp (maxSteps := 1000000) (disch := first | assumption | omega | rfl | decide) [↓rules, rules, lit_u64, aEval_U, splice_nil, splice_zero, splice_step, gset_gset, Int.ofNat_inj, U_junk, U_cells, U_cellOk, ub_and, ub_or, ub_xor, ub_andNot, ub_add, ub_sub, ub_mul, ub_shl, ub_shr, ub_shl', ub_shr', ub_eql, ub_neq, ub_lss, ub_leq, ub_gtr, ub_geq]
    refine done_q hdom kn ?_ ?_; · rfl
    rw [rowsG, hg]; rfl
  have ok := goodG_iff.1 hg
  simp (maxSteps := 1000000) (disch := first | assumption | omega | rfl | decide) [↓rules, rules, lit_u64, aEval_U, splice_nil, splice_zero, splice_step, gset_gset, Int.ofNat_inj, U_junk, U_cells, U_cellOk, ub_and, ub_or, ub_xor, ub_andNot, ub_add, ub_sub, ub_mul, ub_shl, ub_shr, ub_shl', ub_shr', ub_eql, ub_neq, ub_lss, ub_leq, ub_gtr, ub_geq, tf_reeveref1_Geo_Threads, tf_reeveref1_Geo_Slots, tf_reeveref1_Geo_Things, ta_int, ts_int, ta_reeveref1_Geo, ts_reeveref1_Geo]
  refine rcall_quiet rfl (CopyR a b c _ _) ?_
  have hc : 0 ≤ copyG a b c ∧ copyG a b c ≤ 10000 := by rw [copyG, if_pos hg]; omega
  have e1 : IntKind.i64.wrap ((copyG a b c).tdiv 8) = copyG a b c / 8 := by
    rw [Int.tdiv_eq_ediv_of_nonneg hc.1]; exact wrap_i64 (by omega) (by omega)
  have e2 : IntKind.i64.wrap (copyG a b c / 8 + 1) = copyG a b c / 8 + 1 := wrap_i64 (by omega) (by omega)
  simp (maxSteps := 1000000) (disch := first | assumption | omega | rfl | decide) [↓rules, rules, lit_u64, aEval_U, splice_nil, splice_zero, splice_step, gset_gset, Int.ofNat_inj, U_junk, U_cells, U_cellOk, ub_and, ub_or, ub_xor, ub_andNot, ub_add, ub_sub, ub_mul, ub_shl, ub_shr, ub_shl', ub_shr', ub_eql, ub_neq, ub_lss, ub_leq, ub_gtr, ub_geq, bin_quo, e1, e2]
  refine done_q hdom kn ?_ ?_; · rfl
  rw [rowsG, if_pos hg]; rfl
end Go.Proofs.Ytcndbfekcmalmaa.F6

namespace Go.Proofs.Ytcndbfekcmalmaa.F6
open Go Go.Proofs Go.Proofs.YtcndbfekcmalmaaAbs
set_option maxRecDepth 100000
set_option maxHeartbeats 2000000
theorem words (va vb : Value) (xs ys : List (BitVec 64)) (g : AMem) (n : Nat) (hl : xs.length < 4611686018427387904) (hl' : ys.length < 4611686018427387904) (ha : rdW g va xs) (hb : rdW g vb ys) : FnC Try.prog f_reevelaw6_words [va, vb] g n (fun _ => False) (.bool (decide (xs = ys))) g n := by
  refine fnC_of_rwp t_reevelaw6_words hm rfl fun hdom => ?_
  obtain ⟨a, ea, hva⟩ := ha.form
  obtain ⟨b, eb, hvb⟩ := hb.form
  by_cases hne : xs.length = ys.length
  case neg =>
    simp (maxSteps := 1000000) (disch := first | assumption | omega | rfl | decide) [↓rules, rules, lit_u64, aEval_U, splice_nil, splice_zero, splice_step, gset_gset, Int.ofNat_inj, U_junk, U_cells, U_cellOk, ub_and, ub_or, ub_xor, ub_andNot, ub_add, ub_sub, ub_mul, ub_shl, ub_shr, ub_shl', ub_shr', ub_eql, ub_neq, ub_lss, ub_leq, ub_gtr, ub_geq, rc_reevelaw6_words, hva, hvb, tu_S_uint64, hne]
    refine done_q hdom (Kept.refl hdom) ?_ ?_; · rfl
    rw [show decide (xs = ys) = false by simp only [decide_eq_false_iff_not]; intro h; exact hne (by rw [h])]; rfl
  simp (maxSteps := 1000000) (disch := first | assumption | omega | rfl | decide) [↓rules, rules, lit_u64, aEval_U, splice_nil, splice_zero, splice_step, gset_gset, Int.ofNat_inj, U_junk, U_cells, U_cellOk, ub_and, ub_or, ub_xor, ub_andNot, ub_add, ub_sub, ub_mul, ub_shl, ub_shr, ub_shl', ub_shr', ub_eql, ub_neq, ub_lss, ub_leq, ub_gtr, ub_geq, rc_reevelaw6_words, hva, hvb, tu_S_uint64, hne]
  rw [← hvb, show Value.slice a ys.length ea = va by rw [hva, hne]]
  refine rwp_loop (fun k l g' n' => ∃ i, k = xs.length - i ∧ i ≤ xs.length ∧ g' = g ∧ n' = n ∧ xs.take i = ys.take i ∧ l = [(0, va), (1, vb), (5, .int .i64 i)]) ?_ (k := xs.length) ?_
  · rintro k l g' n' ⟨i, rfl, hi, rfl, rfl, he, rfl⟩
    simp (maxSteps := 1000000) (disch := first | assumption | omega | rfl | decide) [↓rules, rules, lit_u64, aEval_U, splice_nil, splice_zero, splice_step, gset_gset, Int.ofNat_inj, U_junk, U_cells, U_cellOk, ub_and, ub_or, ub_xor, ub_andNot, ub_add, ub_sub, ub_mul, ub_shl, ub_shr, ub_shl', ub_shr', ub_eql, ub_neq, ub_lss, ub_leq, ub_gtr, ub_geq, rc_reevelaw6_wordsl0, hva, tu_S_uint64]
    refine rcond_dec (fun hlt => ?_) (fun hlt => ?_)
    · have hlt1 : i < xs.length := by omega
      obtain ⟨b1, o1, h1, _, h2⟩ := ha.one hlt1
      obtain ⟨b2, o2, h3, _, h4⟩ := hb.one (show i < ys.length by omega)
      have e1 := h2 g' (Ext.refl _) Try.prog _ ta_uint64
      have e2 := h4 g' (Ext.refl _) Try.prog _ ta_uint64
      rw [← hva]
      have hlt2 : i < ys.length := by omega
      simp (maxSteps := 1000000) (disch := first | assumption | omega | rfl | decide) [↓rules, rules, lit_u64, aEval_U, splice_nil, splice_zero, splice_step, gset_gset, Int.ofNat_inj, U_junk, U_cells, U_cellOk, ub_and, ub_or, ub_xor, ub_andNot, ub_add, ub_sub, ub_mul, ub_shl, ub_shr, ub_shl', ub_shr', ub_eql, ub_neq, ub_lss, ub_leq, ub_gtr, ub_geq, h1, h3, tu_S_uint64, ts_uint64, e1, e2, hne, hlt2]
      have htake : ∀ (zs : List (BitVec 64)) (h : i < zs.length), zs.take (i + 1) = zs.take i ++ [zs[i]] := fun zs h => by rw [List.take_add_one, List.getElem?_eq_getElem h]; rfl
      refine rcond_bool (fun c => ?_) (fun c => ?_)
      · refine done_q hdom (Kept.refl hdom) ?_ ?_; · rfl
        have c : xs[i] ≠ ys[i] := by simpa using c
        rw [show decide (xs = ys) = false by simp only [decide_eq_false_iff_not]; intro h; subst h; exact c rfl]; rfl
      · have c : xs[i] = ys[i] := by simpa using c
        simp (maxSteps := 1000000) (disch := first | assumption | omega | rfl | decide) [↓rules, rules, lit_u64, aEval_U, splice_nil, splice_zero, splice_step, gset_gset, Int.ofNat_inj, U_junk, U_cells, U_cellOk, ub_and, ub_or, ub_xor, ub_andNot, ub_add, ub_sub, ub_mul, ub_shl, ub_shr, ub_shl', ub_shr', ub_eql, ub_neq, ub_lss, ub_leq, ub_gtr, ub_geq, wrap_i64]
        refine ⟨ys.length - (i + 1), by omega, i + 1, rfl, by omega, ?_⟩
        refine ⟨by rw [htake xs hlt1, htake ys hlt2, he, c], ?_⟩
        simp
    · refine done_q hdom (Kept.refl hdom) ?_ ?_; · rfl
      have e1 : i = xs.length := by omega
      have e2 : i = ys.length := by omega
      rw [e1, List.take_length, ← e1, e2, List.take_length] at he
      rw [show decide (xs = ys) = true by simpa using he]; rfl
  · exact ⟨0, by simp, by simp, rfl, rfl, by simp, by rfl⟩

end Go.Proofs.Ytcndbfekcmalmaa.F6

namespace Go.Proofs.Ytcndbfekcmalmaa.F6
open Go Go.Proofs Go.Proofs.YtcndbfekcmalmaaAbs Go.Proofs.YtcndbfekcmalmaaAbs.Flt
set_option maxHeartbeats 4000000
set_option maxRecDepth 100000
/-! Superblocks. -/
abbrev sv (a b c : Int) (w : BitVec 64) : Value := .agg #[.int .i64 a, .int .i64 b, .int .i64 c, U w]
def supL (a b c : Int) (w : BitVec 64) : List (BitVec 64) := [8243106252149764145#64, BitVec.ofInt 64 a, BitVec.ofInt 64 b, BitVec.ofInt 64 c, w, 0#64, 0#64]
def sealW (l : List (BitVec 64)) : BitVec 64 := wordI (spinI (0, 0) l).1 (spinI (0, 0) l).2
def putS (a b c : Int) (w : BitVec 64) : List (BitVec 64) := if goodG a b c = true then supL a b c w ++ [sealW (supL a b c w)] else []
theorem rd_map {g : AMem} {b : Nat} {ws : List (BitVec 64)} {r : Bool} (h : g b = some (.row (ws.map U) r)) {m : Nat} (hm : m = ws.length) : rdW g (.slice (some ⟨b, 0, none⟩) m 1) ws := by
  subst hm
  refine Rd.of_row (e := 1) (enc := fun w => [U w]) (fun _ => rfl) h ?_ ?_ rfl
  · simp
  · rw [flatMap_one, List.drop_zero, List.take_of_length_le (by simp)]
theorem seal_word (l : List (BitVec 64)) : wordZ (nearF (spinI (0, 0) l).1) (nearF (spinI (0, 0) l).2) = (sealW l, true) := by
  have s := spin_in l (0, 0) ⟨by decide, by decide⟩ ⟨by decide, by decide⟩
  unfold wordZ sealW
  rw [partsZ_near (decide_eq_true (by omega)) (decide_eq_true (by omega))]
  have h1 : in32 (spinI (0, 0) l).1 = true := decide_eq_true (by omega)
  have h2 : in32 (spinI (0, 0) l).2 = true := decide_eq_true (by omega)
  rw [if_pos ⟨rfl, h1, h2⟩]
theorem spin_ok (l : List (BitVec 64)) : okX (nearF (spinI (0, 0) l).1) ∧ okX (nearF (spinI (0, 0) l).2) := by
  have s := spin_in l (0, 0) ⟨by decide, by decide⟩ ⟨by decide, by decide⟩
  exact ⟨near_lt _ (by omega), near_lt _ (by omega)⟩
theorem super_Put (a b c : Int) (w : BitVec 64) (g : AMem) (n : Nat) (hdom : ∀ i, g i ≠ none → i < n) : FnS Try.prog f_super_Put [sv a b c w] g n (fun _ => False) fun v g' n' => rdW g' v (putS a b c w) ∧ Kept g n g' n' := by
  refine fnS_of_rwp t_super_Put hm rfl hdom ?_
  simp (maxSteps := 1000000) (disch := first | assumption | omega | rfl | decide | simp only [fitsR, Bool.and_self]) [↓rules, rules, ↓rulesDp, rulesDq, lit_u64, Int.ofNat_inj, stops, rc_super_Put, q_int, q_bool, q_complex128, q_S_uint64, q_uint64, q_geo_Geo, q_super_Super]
  refine rcall_quiet rfl (GoodG a b c _ _) ?_
  cases cg : goodG a b c
  · simp (maxSteps := 1000000) (disch := first | assumption | omega | rfl | decide | simp only [fitsR, Bool.and_self]) [↓rules, rules, ↓rulesDp, rulesDq, lit_u64, Int.ofNat_inj, stops, q_int, q_bool, q_complex128, q_S_uint64, q_uint64, q_geo_Geo, q_super_Super]
    refine sdone_ret rfl ⟨?_, (Kept.refl hdom).new _⟩
    rw [putS, if_neg (by simp [cg])]; exact Rd.nil
  simp (maxSteps := 1000000) (disch := first | assumption | omega | rfl | decide | simp only [fitsR, Bool.and_self]) [↓rules, rules, ↓rulesDp, rulesDq, lit_u64, Int.ofNat_inj, stops, q_int, q_bool, q_complex128, q_S_uint64, q_uint64, q_geo_Geo, q_super_Super, conv_to_u64 tu_int tu_uint64]
  refine rcall_quiet rfl (gauss_Spin (ws := supL a b c w) (by simp [supL]) _ _ (rd_map (ws := supL a b c w) (r := true) (if_pos rfl) rfl)) ?_
  have so := spin_ok (supL a b c w)
  simp (maxSteps := 1000000) (disch := first | assumption | omega | rfl | decide | simp only [fitsR, Bool.and_self]) [↓rules, rules, ↓rulesDp, rulesDq, lit_u64, Int.ofNat_inj, stops, q_int, q_bool, q_complex128, q_S_uint64, q_uint64, q_geo_Geo, q_super_Super]
  refine rcall_quiet rfl (gauss_Word so.1 so.2 _ _) ?_
  rw [seal_word]
  simp (maxSteps := 1000000) (disch := first | assumption | omega | rfl | decide | simp only [fitsR, Bool.and_self]) [↓rules, rules, ↓rulesDp, rulesDq, lit_u64, Int.ofNat_inj, stops, q_int, q_bool, q_complex128, q_S_uint64, q_uint64, q_geo_Geo, q_super_Super]
  refine sdone_ret rfl ⟨?_, (by repeat first | exact Kept.refl hdom | refine Kept.new ?_ _ | refine Kept.drop ?_ (by omega) | refine Kept.put ?_ (by omega) (by omega) _ | refine Kept.skip ?_)⟩
  rw [putS, if_pos cg]
  exact rd_map (ws := supL a b c w ++ [sealW (supL a b c w)]) (r := true) (if_pos rfl) rfl
def mxU (a b : BitVec 64) : BitVec 64 := if a < b then b else a
noncomputable def maxO3 (P : Program) (u v w : Value) : Option (Value × Eff) := if flatV u = true ∧ flatV v = true ∧ flatV w = true then (pureFlat P (Builtin.max_ #[] 0 #[u, v, w])).map fun v => (v, Eff.none) else none
theorem max2_U (a b : BitVec 64) : Builtin.max2 (U a) (U b) = .pure (U (mxU a b)) := by
  show Sem.pure (Value.int .u64 (if uI b > uI a then uI b else uI a)) = _
  congr 1
  unfold mxU
  by_cases h : a < b
  · have h' : uI b > uI a := by have := BitVec.lt_def.1 h; unfold uI; omega
    rw [if_pos h, if_pos h']; rfl
  · have h' : ¬ uI b > uI a := by have hh : ¬ a.toNat < b.toNat := fun k => h (BitVec.lt_def.2 k); unfold uI; omega
    rw [if_neg h, if_neg h']; rfl
theorem maxO3_U (P : Program) (a b c : BitVec 64) : maxO3 P (U a) (U b) (U c) = some (U (mxU (mxU a b) c), .none) := by
  have e : Builtin.max_ #[] 0 #[U a, U b, U c] = .pure (U (mxU (mxU a b) c)) := by
    simp [Builtin.max_, max2_U, bind, Sem.bind]; rfl
  unfold maxO3
  rw [if_pos ⟨U_flatV _, U_flatV _, U_flatV _⟩, pureFlat, e]
  rfl
theorem aBuiltin_max3 (P : Program) (g : AMem) (n : Nat) (ty : TypeId) (ev : Operand → Value) (x y z : Operand) (ts : Array TypeId) : aBuiltin P g n ty ev .max #[x, y, z] ts = maxO3 P (ev x) (ev y) (ev z) := by
  unfold maxO3
  simp only [aBuiltin, List.all_cons, List.all_nil, Bool.and_true, Bool.and_eq_true, List.map_toArray, List.map_cons, List.map_nil]
  rfl
def getS (l : List (BitVec 64)) : Bool := decide (l.length = 8 ∧ putS (uI (l.getD 1 0#64)) (uI (l.getD 2 0#64)) (uI (l.getD 3 0#64)) (l.getD 4 0#64) = l)
def resS (l : List (BitVec 64)) : Value := if getS l = true then sv (uI (l.getD 1 0#64)) (uI (l.getD 2 0#64)) (uI (l.getD 3 0#64)) (l.getD 4 0#64) else sv 0 0 0 0#64
theorem getS_short {l : List (BitVec 64)} (h : l.length ≠ 8) : getS l = false := decide_eq_false fun k => h k.1
theorem resS_no {l : List (BitVec 64)} (h : getS l = false) : resS l = sv 0 0 0 0#64 := by unfold resS; rw [if_neg (by simp [h])]
theorem putS_big {a b c : Int} {w : BitVec 64} (h : 4096 < a ∨ 4096 < b ∨ 4096 < c) : putS a b c w = [] := by
  unfold putS
  rw [if_neg]
  intro hg
  have := goodG_iff.1 hg
  omega
theorem eight {l : List (BitVec 64)} (h : l.length = 8) : ∃ a b c d e f x y, l = [a, b, c, d, e, f, x, y] := by
  match l, h with
  | [a, b, c, d, e, f, x, y], _ => exact ⟨a, b, c, d, e, f, x, y, rfl⟩
theorem super_Get (va : Value) (l : List (BitVec 64)) (g : AMem) (n : Nat) (hl : l.length < 4611686018427387904) (hv : rdW g va l) : FnC Try.prog f_super_Get [va] g n (fun _ => False) (.tuple #[resS l, .bool (getS l)]) g n := by
  refine fnC_of_rwp t_super_Get hm rfl fun hdom => ?_
  by_cases c0 : l.length = 8
  case neg =>
    obtain ⟨pa, ea, hva⟩ := hv.form
    rw [resS_no (getS_short c0), getS_short c0]
    have c0' : ¬ (l.length : Int) = 8 := by omega
    simp (maxSteps := 1000000) (disch := first | assumption | omega | rfl | decide | simp only [fitsR, Bool.and_self]) [↓rules, rules, ↓rulesDp, rulesDq, lit_u64, Int.ofNat_inj, stops, rc_super_Get, q_int, q_bool, q_S_uint64, q_uint64, q_geo_Geo, q_super_Super, hva, c0']
    refine done_q hdom (by repeat first | exact Kept.refl hdom | refine Kept.new ?_ _ | refine Kept.drop ?_ (by omega) | refine Kept.put ?_ (by omega) (by omega) _ | refine Kept.skip ?_) rfl ?_
    simp (maxSteps := 1000000) (disch := first | assumption | omega | rfl | decide | simp only [fitsR, Bool.and_self]) [↓rules, rules, ↓rulesDp, rulesDq, lit_u64, Int.ofNat_inj, stops, aResults, aRes, q_int, q_bool, q_S_uint64, q_uint64, q_geo_Geo, q_super_Super]
  obtain ⟨w0, w1, w2, w3, w4, w5, w6, w7, rfl⟩ := eight c0
  obtain ⟨b, o, hva, hb, he⟩ := rd_elems hv (by simp)
  have k0 : Kept g n (gset g n (some (.row [.int .i64 0, .int .i64 0, .int .i64 0, U 0#64] true))) (n + 1) := (by repeat first | exact Kept.refl hdom | refine Kept.new ?_ _ | refine Kept.drop ?_ (by omega) | refine Kept.put ?_ (by omega) (by omega) _ | refine Kept.skip ?_)
  have e1 := he 1 (by simp) _ (k0.ext hdom) Try.prog _ ta_uint64
  have e2 := he 2 (by simp) _ (k0.ext hdom) Try.prog _ ta_uint64
  have e3 := he 3 (by simp) _ (k0.ext hdom) Try.prog _ ta_uint64
  have e4 := he 4 (by simp) _ (k0.ext hdom) Try.prog _ ta_uint64
  simp only [List.getElem_cons_succ, List.getElem_cons_zero] at e1 e2 e3 e4
  simp only [List.length_cons, List.length_nil] at hva
  have hl : ∀ x : BitVec 64, (x ≤ 4096#64 → uI x ≤ 4096) ∧ (4096#64 < x → 4096 < uI x) ∧ 0 ≤ uI x := fun x => by
    refine ⟨fun h => ?_, fun h => ?_, ?_⟩
    · have := BitVec.le_def.1 h; unfold uI; simp at this; omega
    · have := BitVec.lt_def.1 h; unfold uI; simp at this; omega
    · unfold uI; omega
  have hm2 : ∀ a b : BitVec 64, 4096#64 < mxU a b ↔ 4096#64 < a ∨ 4096#64 < b := fun a b => by
    unfold mxU
    split
    · rename_i h
      simp only [BitVec.lt_def] at h ⊢
      omega
    · rename_i h
      simp only [BitVec.lt_def] at h ⊢
      omega
  by_cases c1 : 4096#64 < mxU (mxU w1 w2) w3
  · have c2 := (hm2 _ _).1 c1
    rw [hm2] at c2
    have hg : getS [w0, w1, w2, w3, w4, w5, w6, w7] = false := by
      refine decide_eq_false fun h => ?_
      have h := h.2
      simp only [List.getD_cons_succ, List.getD_cons_zero] at h
      rw [putS_big] at h
      · cases h
      · rcases c2 with (c2 | c2) | c2
        · exact .inl ((hl _).2.1 c2)
        · exact .inr (.inl ((hl _).2.1 c2))
        · exact .inr (.inr ((hl _).2.1 c2))
    rw [resS_no hg, hg]
    simp (maxSteps := 1000000) (disch := first | assumption | omega | rfl | decide | simp only [fitsR, Bool.and_self]) [↓rules, rules, ↓rulesDp, rulesDq, lit_u64, Int.ofNat_inj, stops, rc_super_Get, q_int, q_bool, q_S_uint64, q_uint64, q_geo_Geo, q_super_Super, hva, e1, e2, e3, e4, rdo_builtin, aBuiltin_max3, maxO3_U, c1]
    refine done_q hdom (by repeat first | exact Kept.refl hdom | refine Kept.new ?_ _ | refine Kept.drop ?_ (by omega) | refine Kept.put ?_ (by omega) (by omega) _ | refine Kept.skip ?_) rfl ?_
    simp (maxSteps := 1000000) (disch := first | assumption | omega | rfl | decide | simp only [fitsR, Bool.and_self]) [↓rules, rules, ↓rulesDp, rulesDq, lit_u64, Int.ofNat_inj, stops, aResults, aRes, q_int, q_bool, q_S_uint64, q_uint64, q_geo_Geo, q_super_Super]
  have hlow : uI w1 ≤ 4096 ∧ uI w2 ≤ 4096 ∧ uI w3 ≤ 4096 := by
    have c1 := fun h => c1 ((hm2 _ _).2 h)
    refine ⟨(hl _).1 ?_, (hl _).1 ?_, (hl _).1 ?_⟩
    · exact BitVec.not_lt.1 fun h => c1 (.inl ((hm2 _ _).2 (.inl h)))
    · exact BitVec.not_lt.1 fun h => c1 (.inl ((hm2 _ _).2 (.inr h)))
    · exact BitVec.not_lt.1 fun h => c1 (.inr h)
  have v1 : IntKind.i64.wrap (uI w1) = uI w1 := wrap_i64 (by have := (hl w1).2.2; omega) (by omega)
  have v2 : IntKind.i64.wrap (uI w2) = uI w2 := wrap_i64 (by have := (hl w2).2.2; omega) (by omega)
  have v3 : IntKind.i64.wrap (uI w3) = uI w3 := wrap_i64 (by have := (hl w3).2.2; omega) (by omega)
  simp (maxSteps := 1000000) (disch := first | assumption | omega | rfl | decide | simp only [fitsR, Bool.and_self]) [↓rules, rules, ↓rulesDp, rulesDq, lit_u64, Int.ofNat_inj, stops, rc_super_Get, q_int, q_bool, q_S_uint64, q_uint64, q_geo_Geo, q_super_Super, hva, e1, e2, e3, e4, rdo_builtin, aBuiltin_max3, maxO3_U, c1, conv_of_u64 tu_uint64 tu_int, v1, v2, v3]
  have k1 : Kept g n (gset (gset g n (some (.row [.int .i64 0, .int .i64 0, .int .i64 0, U 0#64] true))) (n + 1) (some (.row [.int .i64 (uI w1), .int .i64 (uI w2), .int .i64 (uI w3), U w4] true))) (n + 1 + 1) := (by repeat first | exact Kept.refl hdom | refine Kept.new ?_ _ | refine Kept.drop ?_ (by omega) | refine Kept.put ?_ (by omega) (by omega) _ | refine Kept.skip ?_)
  refine rcall_spec (super_Put _ _ _ _ _ _ k1.dom) rfl (fun _ h => h.elim) rfl fun vp g2 n2 ⟨r2, k2⟩ => ?_
  have hn1 := k2.same (n + 1) (by omega)
  rw [gset, if_pos rfl] at hn1
  have hn0 := k2.same n (by omega)
  rw [gset, if_neg (by omega), gset, if_pos rfl] at hn0
  have k12 := k1.trans k2
  have hv2 := hv.ext (k12.ext hdom)
  have hle := k2.le
  rw [← hva]
  simp (maxSteps := 1000000) (disch := first | assumption | omega | rfl | decide | simp only [fitsR, Bool.and_self]) [↓rules, rules, ↓rulesDp, rulesDq, lit_u64, Int.ofNat_inj, stops, q_int, q_bool, q_S_uint64, q_uint64, q_geo_Geo, q_super_Super, hn0, hn1]
  have hpl : (putS (uI w1) (uI w2) (uI w3) w4).length < 4611686018427387904 := by
    unfold putS
    split
    · simp [supL]
    · simp
  refine rcall_quiet rfl (slices_EqualW vp va _ _ g2 n2 hpl (by simp) r2 hv2) ?_
  have hgs : getS [w0, w1, w2, w3, w4, w5, w6, w7] = decide (putS (uI w1) (uI w2) (uI w3) w4 = [w0, w1, w2, w3, w4, w5, w6, w7]) := by
    unfold getS
    simp only [List.getD_cons_succ, List.getD_cons_zero, c0, true_and]
  rw [← hgs]
  cases cg : getS [w0, w1, w2, w3, w4, w5, w6, w7]
  · rw [resS_no cg]
    simp (maxSteps := 1000000) (disch := first | assumption | omega | rfl | decide | simp only [fitsR, Bool.and_self]) [↓rules, rules, ↓rulesDp, rulesDq, lit_u64, Int.ofNat_inj, stops, q_int, q_bool, q_S_uint64, q_uint64, q_geo_Geo, q_super_Super, hn0, hn1]
    refine done_q hdom (by repeat first | exact k12 | refine Kept.new ?_ _ | refine Kept.drop ?_ (by omega) | refine Kept.put ?_ (by omega) (by omega) _ | refine Kept.skip ?_) rfl ?_
    simp (maxSteps := 1000000) (disch := first | assumption | omega | rfl | decide | simp only [fitsR, Bool.and_self]) [↓rules, rules, ↓rulesDp, rulesDq, lit_u64, Int.ofNat_inj, stops, aResults, aRes, q_int, q_bool, q_S_uint64, q_uint64, q_geo_Geo, q_super_Super]
  · have hres : resS [w0, w1, w2, w3, w4, w5, w6, w7] = sv (uI w1) (uI w2) (uI w3) w4 := by unfold resS; rw [if_pos cg]; rfl
    rw [hres]
    simp (maxSteps := 1000000) (disch := first | assumption | omega | rfl | decide | simp only [fitsR, Bool.and_self]) [↓rules, rules, ↓rulesDp, rulesDq, lit_u64, Int.ofNat_inj, stops, q_int, q_bool, q_S_uint64, q_uint64, q_geo_Geo, q_super_Super, hn0, hn1]
    refine done_q hdom (by repeat first | exact k12 | refine Kept.new ?_ _ | refine Kept.drop ?_ (by omega) | refine Kept.put ?_ (by omega) (by omega) _ | refine Kept.skip ?_) rfl ?_
    simp (maxSteps := 1000000) (disch := first | assumption | omega | rfl | decide | simp only [fitsR, Bool.and_self]) [↓rules, rules, ↓rulesDp, rulesDq, lit_u64, Int.ofNat_inj, stops, aResults, aRes, q_int, q_bool, q_S_uint64, q_uint64, q_geo_Geo, q_super_Super]
end Go.Proofs.Ytcndbfekcmalmaa.F6

namespace Go.Proofs.Ytcndbfekcmalmaa.F6
open Go Go.Proofs Go.Proofs.YtcndbfekcmalmaaAbs
theorem decSuper {H : Type} {enc : TypeId × Value → H} {W : World} : ∀ c, Cells enc Try.prog W [.flat (.int .i64), .flat (.int .i64), .flat (.int .i64), .flat (.int .u64)] c → ∃ (a b d : Int) (w : BitVec 64), VRel (idR W) (szOf W) (sv a b d w) (.agg c.toArray) := fun c h => by
  have hl := h.len
  simp only [List.length_cons, List.length_nil] at hl
  match c, hl, h with
  | [p, q, r, s], _, h =>
    obtain ⟨x, rfl, _⟩ := LK.i64 (h.at_ 0 (by simp) (by simp))
    obtain ⟨y, rfl, _⟩ := LK.i64 (h.at_ 1 (by simp) (by simp))
    obtain ⟨z, rfl, _⟩ := LK.i64 (h.at_ 2 (by simp) (by simp))
    obtain ⟨w, rfl⟩ := LK.u64 (h.at_ 3 (by simp) (by simp))
    exact ⟨x, y, z, w, pureV_rel rfl⟩
end Go.Proofs.Ytcndbfekcmalmaa.F6

namespace Go.Proofs.Ytcndbfekcmalmaa.F6
open Go Go.Proofs Go.Proofs.YtcndbfekcmalmaaAbs Go.Proofs.YtcndbfekcmalmaaAbs.Flt
set_option maxHeartbeats 4000000
set_option maxRecDepth 100000
theorem wordI_nat {a b : Int} (ha : 0 ≤ a ∧ a ≤ 4294967295) (hb : 0 ≤ b ∧ b ≤ 4294967295) : (wordI a b).toNat = b.toNat * 4294967296 + a.toNat := by
  have e1 : (BitVec.ofInt 64 a).toNat = a.toNat := by rw [BitVec.toNat_ofInt]; omega
  have e2 : (BitVec.ofInt 64 b).toNat = b.toNat := by rw [BitVec.toNat_ofInt]; omega
  unfold wordI
  rw [BitVec.toNat_or, BitVec.toNat_shiftLeft, e1, e2]
  have h1 : b.toNat <<< 32 % 2 ^ 64 = b.toNat <<< 32 := by rw [Nat.shiftLeft_eq]; exact Nat.mod_eq_of_lt (by omega)
  rw [h1, ← Nat.shiftLeft_add_eq_or_of_lt (by omega), Nat.shiftLeft_eq]
theorem sealW_inj {x y : List (BitVec 64)} (h : sealW x = sealW y) : spinI (0, 0) x = spinI (0, 0) y := by
  have s := spin_in x (0, 0) ⟨by decide, by decide⟩ ⟨by decide, by decide⟩
  have s' := spin_in y (0, 0) ⟨by decide, by decide⟩ ⟨by decide, by decide⟩
  unfold sealW at h
  have h := congrArg BitVec.toNat h
  rw [wordI_nat (by omega) (by omega), wordI_nat (by omega) (by omega)] at h
  apply Prod.ext <;> omega
def Sealed (x : List (BitVec 64)) : Prop := x.length = 8 ∧ x.getD 7 0#64 = sealW (x.take 7)
theorem putS_sealed (a b c : Int) (w : BitVec 64) : Sealed (supL a b c w ++ [sealW (supL a b c w)]) := ⟨by simp [supL], rfl⟩
theorem getS_sealed {x : List (BitVec 64)} (h : getS x = true) : Sealed x := by
  have h := of_decide_eq_true h
  by_cases c : goodG (uI (x.getD 1 0#64)) (uI (x.getD 2 0#64)) (uI (x.getD 3 0#64)) = true
  · have h2 := h.2
    unfold putS at h2
    rw [if_pos c] at h2
    rw [← h2]
    exact putS_sealed _ _ _ _
  · have h2 := h.2
    unfold putS at h2
    rw [if_neg c] at h2
    rw [← h2] at h
    simp at h
theorem uI_small {a : Int} (h1 : 0 ≤ a) (h2 : a ≤ 4096) : uI (BitVec.ofInt 64 a) = a := by unfold uI; rw [BitVec.toNat_ofInt]; omega
theorem putS_got {a b c : Int} {w : BitVec 64} (hg : goodG a b c = true) : getS (putS a b c w) = true := by
  have hh := goodG_iff.1 hg
  have e : putS a b c w = supL a b c w ++ [sealW (supL a b c w)] := if_pos hg
  refine decide_eq_true ⟨by rw [e]; simp [supL], ?_⟩
  rw [e]
  simp only [supL, List.cons_append, List.nil_append, List.getD_cons_succ, List.getD_cons_zero]
  rw [uI_small (by omega) (by omega), uI_small (by omega) (by omega), uI_small (by omega) (by omega), e]
  rfl
theorem sealed_turn {l : List (BitVec 64)} {i k t : Nat} (hl : Sealed l) (hi : i < l.length) (hk : k < 4) (ht : t < 65536) (hm : Sealed (l.set i (putP l[i] k t))) : l[i] = putP l[i] k t := by
  obtain ⟨l8, ls⟩ := hl
  obtain ⟨_, ms⟩ := hm
  by_cases c : i = 7
  · subst c
    have e : (l.set 7 (putP l[7] k t)).take 7 = l.take 7 := by rw [List.take_set_of_le (by omega)]
    rw [e, ← ls] at ms
    have e2 : l.getD 7 0#64 = l[7] := by simp [List.getD, hi]
    have e3 : (l.set 7 (putP l[7] k t)).getD 7 0#64 = putP l[7] k t := by simp [List.getD, hi]
    rw [e2, e3] at ms
    exact ms.symm
  · have e : (l.set i (putP l[i] k t)).getD 7 0#64 = l.getD 7 0#64 := by
      simp [List.getD, List.getElem?_set, c]
    rw [e, ls] at ms
    have h := sealW_inj ms
    have hi7 : i < (l.take 7).length := by rw [List.length_take]; omega
    have e4 : (l.take 7)[i] = l[i] := by simp
    have key := spin_put (l.take 7) i hi7 hk ht
    rw [e4] at key
    rw [List.take_set] at h
    exact key.1 h
theorem turned_law {a b c : Int} {w : BitVec 64} (hg : goodG a b c = true) {i k t : Nat} (hi : i < (putS a b c w).length) (hk : k < 4) (ht : t < 65536) :
    getS ((putS a b c w).set i (putP (putS a b c w)[i] k t)) = decide (putS a b c w = (putS a b c w).set i (putP (putS a b c w)[i] k t)) := by
  have hs := getS_sealed (putS_got (w := w) hg)
  have hgot := putS_got (w := w) hg
  generalize putS a b c w = l at *
  by_cases c1 : l[i] = putP l[i] k t
  · rw [← c1, List.set_getElem_self, hgot, decide_eq_true rfl]
  · have hne : ¬ l = l.set i (putP l[i] k t) := fun h => by
      have := congrArg (fun x : List (BitVec 64) => x[i]?) h
      simp [hi] at this
      exact c1 this
    rw [decide_eq_false hne]
    cases cg : getS (l.set i (putP l[i] k t))
    · rfl
    · exact absurd (sealed_turn hs hi hk ht (getS_sealed cg)) c1
theorem awake6_run : xfnE Try.prog tab ext 3000 20 f_reevelaw6_awake [] (fun _ => none) 0 = some ⟨.bool true, fun _ => none, 0, 0, true⟩ := by kernel_rfl
theorem awake6 (g : AMem) (n : Nat) : FnC Try.prog f_reevelaw6_awake [] g n (fun _ => False) (.bool true) g n :=
  FnC.closed (xfnE_ok hm tabOk extOk 3000 20 _ _ _ _ _ (fun _ h => absurd rfl h) awake6_run).2.1 rfl rfl g n
end Go.Proofs.Ytcndbfekcmalmaa.F6

namespace Go.Proofs.Ytcndbfekcmalmaa.F6
open Go Go.Proofs Go.Proofs.YtcndbfekcmalmaaAbs Go.Proofs.YtcndbfekcmalmaaAbs.Flt
set_option maxHeartbeats 4000000
set_option maxRecDepth 100000
theorem cellOkV (ws : List (BitVec 64)) : (ws.map U).all cellOk = true := by
  induction ws with
  | nil => rfl
  | cons w ws ih => simp [ih, U_cellOk]
theorem SuperTurned (a b c : Int) (w : BitVec 64) (at_ part to : Int) (g : AMem) (n : Nat) (hdom : ∀ i, g i ≠ none → i < n) (_ : -9223372036854775808 ≤ at_) (_ : at_ ≤ 9223372036854775807) (_ : -9223372036854775808 ≤ part) (_ : part ≤ 9223372036854775807) (h1 : 0 ≤ to) (h2 : to ≤ 65535) :
    FnC Try.prog f_reevelaw6_SuperTurned [sv a b c w, .int .i64 at_, .int .i64 part, .int .u16 to] g n (fun _ => False) (.bool true) g n := by
  refine fnC_of_rwp t_reevelaw6_SuperTurned hm rfl fun hdom => ?_
  simp (maxSteps := 1000000) (disch := first | assumption | omega | rfl | decide | simp only [fitsR, Bool.and_self]) [↓rules, rules, ↓rulesDp, rulesDq, lit_u64, Int.ofNat_inj, stops, rc_reevelaw6_SuperTurned, q_int, q_bool, q_S_uint64, q_uint16, q_uint, q_uint64, q_geo_Geo, q_super_Super]
  refine rcall_quiet rfl (awake6 _ _) ?_
  simp (maxSteps := 1000000) (disch := first | assumption | omega | rfl | decide | simp only [fitsR, Bool.and_self]) [↓rules, rules, ↓rulesDp, rulesDq, lit_u64, Int.ofNat_inj, stops, q_int, q_bool, q_S_uint64, q_uint16, q_uint, q_uint64, q_geo_Geo, q_super_Super]
  have k0 : Kept g n (gset g n (some (.row [.int .i64 a, .int .i64 b, .int .i64 c, U w] true))) (n + 1) := (by repeat first | exact Kept.refl hdom | refine Kept.new ?_ _ | refine Kept.drop ?_ (by omega) | refine Kept.put ?_ (by omega) (by omega) _ | refine Kept.skip ?_)
  refine rcall_spec (super_Put _ _ _ _ _ _ k0.dom) rfl (fun _ h => h.elim) rfl fun vp g1 n1 ⟨r1, k1⟩ => ?_
  have kk := k0.trans k1
  have hle := kk.le
  have hle' : n ≤ n1 := by omega
  obtain ⟨pa, ea, hvp⟩ := r1.form
  cases cg : goodG a b c
  · have hp : putS a b c w = [] := by unfold putS; rw [if_neg (by simp [cg])]
    rw [hp] at hvp
    simp only [List.length_nil] at hvp
    simp (maxSteps := 1000000) (disch := first | assumption | omega | rfl | decide | simp only [fitsR, Bool.and_self]) [↓rules, rules, ↓rulesDp, rulesDq, lit_u64, Int.ofNat_inj, stops, q_int, q_bool, q_S_uint64, q_uint16, q_uint, q_uint64, q_geo_Geo, q_super_Super, hvp]
    exact done_q hdom kk rfl rfl
  have hl8 : (putS a b c w).length = 8 := by unfold putS; rw [if_pos cg]; simp [supL]
  have law := fun (i k t : Nat) (hi : i < (putS a b c w).length) (hk : k < 4) (ht : t < 65536) => turned_law (w := w) cg hi hk ht
  generalize putS a b c w = l at *
  rw [hl8] at hvp
  by_cases c2 : at_ < 0
  · simp (maxSteps := 1000000) (disch := first | assumption | omega | rfl | decide | simp only [fitsR, Bool.and_self]) [↓rules, rules, ↓rulesDp, rulesDq, lit_u64, Int.ofNat_inj, stops, q_int, q_bool, q_S_uint64, q_uint16, q_uint, q_uint64, q_geo_Geo, q_super_Super, hvp, c2]
    exact done_q hdom kk rfl rfl
  by_cases c3 : 7 < at_
  · simp (maxSteps := 1000000) (disch := first | assumption | omega | rfl | decide | simp only [fitsR, Bool.and_self]) [↓rules, rules, ↓rulesDp, rulesDq, lit_u64, Int.ofNat_inj, stops, q_int, q_bool, q_S_uint64, q_uint16, q_uint, q_uint64, q_geo_Geo, q_super_Super, hvp, c2, c3]
    exact done_q hdom kk rfl rfl
  by_cases c4 : part < 0
  · simp (maxSteps := 1000000) (disch := first | assumption | omega | rfl | decide | simp only [fitsR, Bool.and_self]) [↓rules, rules, ↓rulesDp, rulesDq, lit_u64, Int.ofNat_inj, stops, q_int, q_bool, q_S_uint64, q_uint16, q_uint, q_uint64, q_geo_Geo, q_super_Super, hvp, c2, c3, c4]
    exact done_q hdom kk rfl rfl
  by_cases c5 : 3 < part
  · simp (maxSteps := 1000000) (disch := first | assumption | omega | rfl | decide | simp only [fitsR, Bool.and_self]) [↓rules, rules, ↓rulesDp, rulesDq, lit_u64, Int.ofNat_inj, stops, q_int, q_bool, q_S_uint64, q_uint16, q_uint, q_uint64, q_geo_Geo, q_super_Super, hvp, c2, c3, c4, c5]
    exact done_q hdom kk rfl rfl
  obtain ⟨i, rfl⟩ : ∃ i : Nat, at_ = i := ⟨at_.toNat, by omega⟩
  obtain ⟨k, rfl⟩ : ∃ k : Nat, part = k := ⟨part.toNat, by omega⟩
  obtain ⟨t, rfl⟩ : ∃ t : Nat, to = t := ⟨to.toNat, by omega⟩
  have hi : i < l.length := by omega
  have hi8 : i < 8 := by omega
  have hk : k < 4 := by omega
  have ht : t < 65536 := by omega
  have law := law i k t hi hk ht
  have q0 : Kept g1 n1 (gset g1 n1 (some (.row [] true))) (n1 + 1) := (Kept.refl k1.dom).new _
  have e1 := rd_read (r1.ext (q0.ext k1.dom))
  rw [flatMap_one, hvp, hl8] at e1
  have ok1 := cellOkV l
  have w1 : IntKind.i64.wrap (16 * (k : Int)) = 16 * (k : Int) := wrap_i64 (by omega) (by omega)
  have ld : nth (l.map U) i = some (U l[i]) := by
    have : (l.map U)[i]? = some (U l[i]) := by simp [hi]
    rw [nth_eq] at this; exact this
  have hof : BitVec.ofInt 64 (16 * (k : Int)) = BitVec.ofNat 64 (16 * k) := by
    apply BitVec.eq_of_toNat_eq; rw [BitVec.toNat_ofInt, BitVec.toNat_ofNat]; omega
  have hof2 : BitVec.ofInt 64 (t : Int) = BitVec.ofNat 64 t := by
    apply BitVec.eq_of_toNat_eq; rw [BitVec.toNat_ofInt, BitVec.toNat_ofNat]; omega
  have hsh : ∀ x : BitVec 64, x <<< (BitVec.ofNat 64 (16 * k)) = x <<< (16 * k) := fun x => by
    rw [BitVec.shiftLeft_eq', BitVec.toNat_ofNat, Nat.mod_eq_of_lt (by omega)]
  have hi1 : i + 1 ≤ l.length := hi
  have hsp : splice (l.map U) i [U (l[i] &&& ~~~(65535#64 <<< (16 * k)) ||| BitVec.ofNat 64 t <<< (16 * k))] = (l.set i (putP l[i] k t)).map U := by
    rw [List.map_set, List.set_eq_take_append_cons_drop, if_pos (by simpa using hi)]
    simp [splice, putP]
  have hi2 : i + 1 ≤ 8 := hi8
  have hi3 : (i : Int) < 8 := by omega
  simp (maxSteps := 1000000) (disch := first | assumption | omega | rfl | decide | simp only [fitsR, Bool.and_self]) [↓rules, rules, ↓rulesDp, rulesDq, lit_u64, Int.ofNat_inj, stops, q_int, q_bool, q_S_uint64, q_uint16, q_uint, q_uint64, q_geo_Geo, q_super_Super, hvp, c2, c3, c4, c5, e1, ok1, w1, conv_to_u64 tu_int tu_uint, conv_to_u64 tu_uint16 tu_uint64, hof, hof2, hi, hi8, ld, hsh, hi1, hi2, hi3, hsp, hl8]
  refine ⟨hle', ?_⟩
  refine ⟨by omega, ?_⟩
  have q4 := (q0.drop (b := n1) (by omega)).new (.row ((l.map U).set i (U (putP l[i] k t))) true)
  rw [gset_gset] at q4
  have hm5 : (l.map U).set i (U (putP l[i] k t)) = (l.set i (putP l[i] k t)).map U := by rw [List.map_set]
  have hr4 := r1.ext (q4.ext k1.dom)
  have hr5 : rdW (gset (gset g1 n1 none) (n1 + 1) (some (.row ((l.map U).set i (U (putP l[i] k t))) true))) (.slice (some ⟨n1 + 1, 0, none⟩) 8 1) (l.set i (putP l[i] k t)) := by
    rw [hm5]
    exact rd_map (gset_same _ _ _) (by simp [hl8])
  have hlm : (l.set i (putP l[i] k t)).length = 8 := by simp [hl8]
  have k4 := kk.trans q4
  generalize putP l[i] k t = v at *
  rw [hvp] at hr4
  refine rcall_quiet rfl (super_Get _ (l.set i v) _ _ (by omega) hr5) ?_
  have beq : ∀ x : Bool, (x == x) = true := fun x => by cases x <;> rfl
  cases cs : getS (l.set i v)
  · rw [resS_no cs]
    rw [cs] at law
    simp (maxSteps := 1000000) (disch := first | assumption | omega | rfl | decide | simp only [fitsR, Bool.and_self]) [↓rules, rules, ↓rulesDp, rulesDq, lit_u64, Int.ofNat_inj, stops, q_int, q_bool, q_S_uint64, q_uint16, q_uint, q_uint64, q_geo_Geo, q_super_Super]
    refine ⟨by omega, ?_⟩
    have q5 := (Kept.refl q4.dom).new (.row [.int .i64 0, .int .i64 0, .int .i64 0, U 0#64] true)
    have hw := words _ _ l (l.set i v) _ (n1 + 1 + 1 + 1) (by omega) (by omega) (hr4.ext (q5.ext q4.dom)) (hr5.ext (q5.ext q4.dom))
    rw [← law] at hw
    refine rcall_quiet rfl hw ?_
    simp (maxSteps := 1000000) (disch := first | assumption | omega | rfl | decide | simp only [fitsR, Bool.and_self]) [↓rules, rules, ↓rulesDp, rulesDq, lit_u64, Int.ofNat_inj, stops, q_int, q_bool, q_S_uint64, q_uint16, q_uint, q_uint64, q_geo_Geo, q_super_Super, bin_eql_bool tu_bool, beq]
    exact done_q hdom (k4.trans q5) rfl rfl
  · rw [cs] at law
    have hres : resS (l.set i v) = sv (uI ((l.set i v).getD 1 0#64)) (uI ((l.set i v).getD 2 0#64)) (uI ((l.set i v).getD 3 0#64)) ((l.set i v).getD 4 0#64) := by unfold resS; rw [if_pos cs]
    rw [hres]
    generalize uI ((l.set i v).getD 1 0#64) = a1
    generalize uI ((l.set i v).getD 2 0#64) = a2
    generalize uI ((l.set i v).getD 3 0#64) = a3
    generalize (l.set i v).getD 4 0#64 = a4
    simp (maxSteps := 1000000) (disch := first | assumption | omega | rfl | decide | simp only [fitsR, Bool.and_self]) [↓rules, rules, ↓rulesDp, rulesDq, lit_u64, Int.ofNat_inj, stops, q_int, q_bool, q_S_uint64, q_uint16, q_uint, q_uint64, q_geo_Geo, q_super_Super]
    refine ⟨by omega, ?_⟩
    have q5 := (Kept.refl q4.dom).new (.row [.int .i64 a1, .int .i64 a2, .int .i64 a3, U a4] true)
    have hw := words _ _ l (l.set i v) _ (n1 + 1 + 1 + 1) (by omega) (by omega) (hr4.ext (q5.ext q4.dom)) (hr5.ext (q5.ext q4.dom))
    rw [← law] at hw
    refine rcall_quiet rfl hw ?_
    simp (maxSteps := 1000000) (disch := first | assumption | omega | rfl | decide | simp only [fitsR, Bool.and_self]) [↓rules, rules, ↓rulesDp, rulesDq, lit_u64, Int.ofNat_inj, stops, q_int, q_bool, q_S_uint64, q_uint16, q_uint, q_uint64, q_geo_Geo, q_super_Super, bin_eql_bool tu_bool, beq]
    exact done_q hdom (k4.trans q5) rfl rfl
end Go.Proofs.Ytcndbfekcmalmaa.F6
