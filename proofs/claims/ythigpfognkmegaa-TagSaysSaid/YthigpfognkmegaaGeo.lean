/- Contracts of functions: what each one returns, and what it leaves. No statement is proved here. -/
import Derived.Test.YthigpfognkmegaaF
set_option linter.unusedVariables false
set_option linter.unusedSimpArgs false
namespace Go.Proofs.Ythigpfognkmegaa.F
open Go Go.Proofs Go.Proofs.YthigpfognkmegaaAbs
abbrev gv (a b c : Int) : Value := .agg #[.int .i64 a, .int .i64 b, .int .i64 c]
def goodG (a b c : Int) : Bool := decide (1 ≤ a ∧ a ≤ 4 ∧ 8 * a ≤ b ∧ b ≤ 96 ∧ b % 8 = 0 ∧ a + 2 ≤ c ∧ c ≤ 48)
theorem goodG_iff {a b c : Int} : goodG a b c = true ↔ 1 ≤ a ∧ a ≤ 4 ∧ 8 * a ≤ b ∧ b ≤ 96 ∧ b % 8 = 0 ∧ a + 2 ≤ c ∧ c ≤ 48 := by unfold goodG; simp
theorem goodG_no {a b c : Int} (h : ¬ (1 ≤ a ∧ a ≤ 4 ∧ 8 * a ≤ b ∧ b ≤ 96 ∧ b % 8 = 0 ∧ a + 2 ≤ c ∧ c ≤ 48)) : goodG a b c = false := by unfold goodG; simpa using h
theorem inG (x lo hi : Int) (g : AMem) (n : Nat) : FnC Try.prog 47 [.int .i64 x, .int .i64 lo, .int .i64 hi] g n (fun _ => False) (.bool (decide (lo ≤ x ∧ x ≤ hi))) g n := by
  refine fnC_of_rwp t47 hm rfl fun hdom => ?_
  by_cases c : lo ≤ x
  · simp (maxSteps := 1000000) (disch := first | assumption | omega | rfl | decide) [↓rules, rules, lit_u64, aEval_U, splice_nil, splice_zero, splice_step, gset_gset, Int.ofNat_inj, U_junk, U_cells, U_cellOk, ub_and, ub_or, ub_xor, ub_andNot, ub_add, ub_sub, ub_mul, ub_shl, ub_shr, ub_shl', ub_shr', ub_eql, ub_neq, ub_lss, ub_leq, ub_gtr, ub_geq, rc47, c]
    refine done_q hdom (Kept.refl hdom) ?_ ?_ <;> rfl
  · simp (maxSteps := 1000000) (disch := first | assumption | omega | rfl | decide) [↓rules, rules, lit_u64, aEval_U, splice_nil, splice_zero, splice_step, gset_gset, Int.ofNat_inj, U_junk, U_cells, U_cellOk, ub_and, ub_or, ub_xor, ub_andNot, ub_add, ub_sub, ub_mul, ub_shl, ub_shr, ub_shl', ub_shr', ub_eql, ub_neq, ub_lss, ub_leq, ub_gtr, ub_geq, rc47, c]
    refine done_q hdom (Kept.refl hdom) ?_ ?_ <;> rfl
theorem GoodG (a b c : Int) (g : AMem) (n : Nat) : FnC Try.prog 23 [gv a b c] g n (fun _ => False) (.bool (goodG a b c)) g n := by
  refine fnC_of_rwp t23 hm rfl fun hdom => ?_
  have kn := (Kept.refl hdom).new (.row [.int .i64 a, .int .i64 b, .int .i64 c] true)
  simp (maxSteps := 1000000) (disch := first | assumption | omega | rfl | decide) [↓rules, rules, lit_u64, aEval_U, splice_nil, splice_zero, splice_step, gset_gset, Int.ofNat_inj, U_junk, U_cells, U_cellOk, ub_and, ub_or, ub_xor, ub_andNot, ub_add, ub_sub, ub_mul, ub_shl, ub_shr, ub_shl', ub_shr', ub_eql, ub_neq, ub_lss, ub_leq, ub_gtr, ub_geq, rc23, tf45_0, tf45_1, tf45_2, ta3, ts3]
  refine rcall_quiet rfl (inG _ _ _ _ _) ?_
  by_cases c1 : 1 ≤ a ∧ a ≤ 4
  case neg =>
    simp (maxSteps := 1000000) (disch := first | assumption | omega | rfl | decide) [↓rules, rules, lit_u64, aEval_U, splice_nil, splice_zero, splice_step, gset_gset, Int.ofNat_inj, U_junk, U_cells, U_cellOk, ub_and, ub_or, ub_xor, ub_andNot, ub_add, ub_sub, ub_mul, ub_shl, ub_shr, ub_shl', ub_shr', ub_eql, ub_neq, ub_lss, ub_leq, ub_gtr, ub_geq, c1]
    refine done_q hdom kn ?_ ?_; · rfl
    rw [goodG_no (by omega)]; rfl
  have e1 : IntKind.i64.wrap (8 * a) = 8 * a := wrap_i64 (by omega) (by omega)
  have e2 : IntKind.i64.wrap (a + 2) = a + 2 := wrap_i64 (by omega) (by omega)
  simp (maxSteps := 1000000) (disch := first | assumption | omega | rfl | decide) [↓rules, rules, lit_u64, aEval_U, splice_nil, splice_zero, splice_step, gset_gset, Int.ofNat_inj, U_junk, U_cells, U_cellOk, ub_and, ub_or, ub_xor, ub_andNot, ub_add, ub_sub, ub_mul, ub_shl, ub_shr, ub_shl', ub_shr', ub_eql, ub_neq, ub_lss, ub_leq, ub_gtr, ub_geq, c1, tf45_0, tf45_1, tf45_2, ta3, ts3, e1]
  refine rcall_quiet rfl (inG _ _ _ _ _) ?_
  by_cases c2 : 8 * a ≤ b ∧ b ≤ 96
  case neg =>
    simp (maxSteps := 1000000) (disch := first | assumption | omega | rfl | decide) [↓rules, rules, lit_u64, aEval_U, splice_nil, splice_zero, splice_step, gset_gset, Int.ofNat_inj, U_junk, U_cells, U_cellOk, ub_and, ub_or, ub_xor, ub_andNot, ub_add, ub_sub, ub_mul, ub_shl, ub_shr, ub_shl', ub_shr', ub_eql, ub_neq, ub_lss, ub_leq, ub_gtr, ub_geq, c2]
    refine done_q hdom kn ?_ ?_; · rfl
    rw [goodG_no (by omega)]; rfl
  have e3 : b.tmod 8 = b % 8 := Int.tmod_eq_emod_of_nonneg (by omega)
  by_cases c3 : b % 8 = 0
  case neg =>
    simp (maxSteps := 1000000) (disch := first | assumption | omega | rfl | decide) [↓rules, rules, lit_u64, aEval_U, splice_nil, splice_zero, splice_step, gset_gset, Int.ofNat_inj, U_junk, U_cells, U_cellOk, ub_and, ub_or, ub_xor, ub_andNot, ub_add, ub_sub, ub_mul, ub_shl, ub_shr, ub_shl', ub_shr', ub_eql, ub_neq, ub_lss, ub_leq, ub_gtr, ub_geq, c2, tf45_0, tf45_1, tf45_2, ta3, ts3, bin_rem, e3, c3]
    refine done_q hdom kn ?_ ?_; · rfl
    rw [goodG_no (by omega)]; rfl
  simp (maxSteps := 1000000) (disch := first | assumption | omega | rfl | decide) [↓rules, rules, lit_u64, aEval_U, splice_nil, splice_zero, splice_step, gset_gset, Int.ofNat_inj, U_junk, U_cells, U_cellOk, ub_and, ub_or, ub_xor, ub_andNot, ub_add, ub_sub, ub_mul, ub_shl, ub_shr, ub_shl', ub_shr', ub_eql, ub_neq, ub_lss, ub_leq, ub_gtr, ub_geq, c2, tf45_0, tf45_1, tf45_2, ta3, ts3, bin_rem, e3, c3, e2]
  refine rcall_quiet rfl (inG _ _ _ _ _) ?_
  simp (maxSteps := 1000000) (disch := first | assumption | omega | rfl | decide) [↓rules, rules, lit_u64, aEval_U, splice_nil, splice_zero, splice_step, gset_gset, Int.ofNat_inj, U_junk, U_cells, U_cellOk, ub_and, ub_or, ub_xor, ub_andNot, ub_add, ub_sub, ub_mul, ub_shl, ub_shr, ub_shl', ub_shr', ub_eql, ub_neq, ub_lss, ub_leq, ub_gtr, ub_geq]
  refine done_q hdom kn ?_ ?_; · rfl
  have : goodG a b c = decide (a + 2 ≤ c ∧ c ≤ 48) := by unfold goodG; rw [decide_eq_decide]; omega
  rw [this, Bool.decide_and]; rfl
theorem long (g : AMem) (n : Nat) : FnC Try.prog 50 [] g n (fun _ => False) (.int .i64 1208) g n := by
  refine fnC_of_rwp t50 hm rfl fun hdom => ?_
  simp (maxSteps := 1000000) (disch := first | assumption | omega | rfl | decide) [↓rules, rules, lit_u64, aEval_U, splice_nil, splice_zero, splice_step, gset_gset, Int.ofNat_inj, U_junk, U_cells, U_cellOk, ub_and, ub_or, ub_xor, ub_andNot, ub_add, ub_sub, ub_mul, ub_shl, ub_shr, ub_shl', ub_shr', ub_eql, ub_neq, ub_lss, ub_leq, ub_gtr, ub_geq, rc50]
  refine done_q hdom (Kept.refl hdom) ?_ ?_ <;> rfl
theorem slotsAt (a b c : Int) (ha : 1 ≤ a ∧ a ≤ 4) (g : AMem) (n : Nat) : FnC Try.prog 48 [gv a b c] g n (fun _ => False) (.int .i64 (16 + a * 1208)) g n := by
  refine fnC_of_rwp t48 hm rfl fun hdom => ?_
  have kn := (Kept.refl hdom).new (.row [.int .i64 a, .int .i64 b, .int .i64 c] true)
  have e1 : IntKind.i64.wrap (a * 1208) = a * 1208 := wrap_i64 (by omega) (by omega)
  have e2 : IntKind.i64.wrap (16 + a * 1208) = 16 + a * 1208 := wrap_i64 (by omega) (by omega)
  simp (maxSteps := 1000000) (disch := first | assumption | omega | rfl | decide) [↓rules, rules, lit_u64, aEval_U, splice_nil, splice_zero, splice_step, gset_gset, Int.ofNat_inj, U_junk, U_cells, U_cellOk, ub_and, ub_or, ub_xor, ub_andNot, ub_add, ub_sub, ub_mul, ub_shl, ub_shr, ub_shl', ub_shr', ub_eql, ub_neq, ub_lss, ub_leq, ub_gtr, ub_geq, rc48, tf45_0, tf45_1, tf45_2, ta3, ts3, ta45, ts45, e1, e2]
  refine done_q hdom kn ?_ ?_ <;> rfl
theorem slotsR (a b c : Int) (ha : 1 ≤ a ∧ a ≤ 4) (g : AMem) (n : Nat) : FnC Try.prog 51 [gv a b c] g n (fun _ => False) (.int .i64 (16 + a * 1208)) g n := by
  refine fnC_of_rwp t51 hm rfl fun hdom => ?_
  have kn := (Kept.refl hdom).new (.row [.int .i64 a, .int .i64 b, .int .i64 c] true)
  have e1 : IntKind.i64.wrap (a * 1208) = a * 1208 := wrap_i64 (by omega) (by omega)
  have e2 : IntKind.i64.wrap (16 + a * 1208) = 16 + a * 1208 := wrap_i64 (by omega) (by omega)
  simp (maxSteps := 1000000) (disch := first | assumption | omega | rfl | decide) [↓rules, rules, lit_u64, aEval_U, splice_nil, splice_zero, splice_step, gset_gset, Int.ofNat_inj, U_junk, U_cells, U_cellOk, ub_and, ub_or, ub_xor, ub_andNot, ub_add, ub_sub, ub_mul, ub_shl, ub_shr, ub_shl', ub_shr', ub_eql, ub_neq, ub_lss, ub_leq, ub_gtr, ub_geq, rc51, tf53_0, tf53_1, tf53_2, ta3, ts3, ta53, ts53]
  refine rcall_quiet rfl (long _ _) ?_
  simp (maxSteps := 1000000) (disch := first | assumption | omega | rfl | decide) [↓rules, rules, lit_u64, aEval_U, splice_nil, splice_zero, splice_step, gset_gset, Int.ofNat_inj, U_junk, U_cells, U_cellOk, ub_and, ub_or, ub_xor, ub_andNot, ub_add, ub_sub, ub_mul, ub_shl, ub_shr, ub_shl', ub_shr', ub_eql, ub_neq, ub_lss, ub_leq, ub_gtr, ub_geq, e1, e2]
  refine done_q hdom kn ?_ ?_ <;> rfl
theorem thingsAt (a b c : Int) (ha : 1 ≤ a ∧ a ≤ 4) (hb : 0 ≤ b ∧ b ≤ 96) (g : AMem) (n : Nat) : FnC Try.prog 49 [gv a b c] g n (fun _ => False) (.int .i64 (16 + a * 1208 + 2 * b)) g n := by
  refine fnC_of_rwp t49 hm rfl fun hdom => ?_
  have kn := (Kept.refl hdom).new (.row [.int .i64 a, .int .i64 b, .int .i64 c] true)
  have e1 : IntKind.i64.wrap (2 * b) = 2 * b := wrap_i64 (by omega) (by omega)
  have e2 : IntKind.i64.wrap (16 + a * 1208 + 2 * b) = 16 + a * 1208 + 2 * b := wrap_i64 (by omega) (by omega)
  simp (maxSteps := 1000000) (disch := first | assumption | omega | rfl | decide) [↓rules, rules, lit_u64, aEval_U, splice_nil, splice_zero, splice_step, gset_gset, Int.ofNat_inj, U_junk, U_cells, U_cellOk, ub_and, ub_or, ub_xor, ub_andNot, ub_add, ub_sub, ub_mul, ub_shl, ub_shr, ub_shl', ub_shr', ub_eql, ub_neq, ub_lss, ub_leq, ub_gtr, ub_geq, rc49, tf45_0, tf45_1, tf45_2, ta3, ts3, ta45, ts45]
  refine rcall_quiet rfl (slotsAt a b c ha _ _) ?_
  simp (maxSteps := 1000000) (disch := first | assumption | omega | rfl | decide) [↓rules, rules, lit_u64, aEval_U, splice_nil, splice_zero, splice_step, gset_gset, Int.ofNat_inj, U_junk, U_cells, U_cellOk, ub_and, ub_or, ub_xor, ub_andNot, ub_add, ub_sub, ub_mul, ub_shl, ub_shr, ub_shl', ub_shr', ub_eql, ub_neq, ub_lss, ub_leq, ub_gtr, ub_geq, tf45_0, tf45_1, tf45_2, ta3, ts3, ta45, ts45, e1, e2]
  refine done_q hdom kn ?_ ?_ <;> rfl
theorem GoodR (a b c : Int) (g : AMem) (n : Nat) : FnC Try.prog 33 [gv a b c] g n (fun _ => False) (.bool (goodG a b c)) g n := by
  refine fnC_of_rwp t33 hm rfl fun hdom => ?_
  have kn := (Kept.refl hdom).new (.row [.int .i64 a, .int .i64 b, .int .i64 c] true)
  by_cases c1 : 1 ≤ a
  case neg =>
    simp (maxSteps := 1000000) (disch := first | assumption | omega | rfl | decide) [↓rules, rules, lit_u64, aEval_U, splice_nil, splice_zero, splice_step, gset_gset, Int.ofNat_inj, U_junk, U_cells, U_cellOk, ub_and, ub_or, ub_xor, ub_andNot, ub_add, ub_sub, ub_mul, ub_shl, ub_shr, ub_shl', ub_shr', ub_eql, ub_neq, ub_lss, ub_leq, ub_gtr, ub_geq, rc33, tf53_0, tf53_1, tf53_2, ta3, ts3, ta53, ts53, c1]
    refine done_q hdom kn ?_ ?_; · rfl
    rw [goodG_no (by omega)]; rfl
  by_cases c2 : a ≤ 4
  case neg =>
    simp (maxSteps := 1000000) (disch := first | assumption | omega | rfl | decide) [↓rules, rules, lit_u64, aEval_U, splice_nil, splice_zero, splice_step, gset_gset, Int.ofNat_inj, U_junk, U_cells, U_cellOk, ub_and, ub_or, ub_xor, ub_andNot, ub_add, ub_sub, ub_mul, ub_shl, ub_shr, ub_shl', ub_shr', ub_eql, ub_neq, ub_lss, ub_leq, ub_gtr, ub_geq, rc33, tf53_0, tf53_1, tf53_2, ta3, ts3, ta53, ts53, c1, c2]
    refine done_q hdom kn ?_ ?_; · rfl
    rw [goodG_no (by omega)]; rfl
  have e1 : IntKind.i64.wrap (8 * a) = 8 * a := wrap_i64 (by omega) (by omega)
  have e2 : IntKind.i64.wrap (a + 2) = a + 2 := wrap_i64 (by omega) (by omega)
  by_cases c3 : 8 * a ≤ b
  case neg =>
    simp (maxSteps := 1000000) (disch := first | assumption | omega | rfl | decide) [↓rules, rules, lit_u64, aEval_U, splice_nil, splice_zero, splice_step, gset_gset, Int.ofNat_inj, U_junk, U_cells, U_cellOk, ub_and, ub_or, ub_xor, ub_andNot, ub_add, ub_sub, ub_mul, ub_shl, ub_shr, ub_shl', ub_shr', ub_eql, ub_neq, ub_lss, ub_leq, ub_gtr, ub_geq, rc33, tf53_0, tf53_1, tf53_2, ta3, ts3, ta53, ts53, c1, c2, c3, e1]
    refine done_q hdom kn ?_ ?_; · rfl
    rw [goodG_no (by omega)]; rfl
  by_cases c4 : b ≤ 96
  case neg =>
    simp (maxSteps := 1000000) (disch := first | assumption | omega | rfl | decide) [↓rules, rules, lit_u64, aEval_U, splice_nil, splice_zero, splice_step, gset_gset, Int.ofNat_inj, U_junk, U_cells, U_cellOk, ub_and, ub_or, ub_xor, ub_andNot, ub_add, ub_sub, ub_mul, ub_shl, ub_shr, ub_shl', ub_shr', ub_eql, ub_neq, ub_lss, ub_leq, ub_gtr, ub_geq, rc33, tf53_0, tf53_1, tf53_2, ta3, ts3, ta53, ts53, c1, c2, c3, c4, e1]
    refine done_q hdom kn ?_ ?_; · rfl
    rw [goodG_no (by omega)]; rfl
  have e3 : b.tmod 8 = b % 8 := Int.tmod_eq_emod_of_nonneg (by omega)
  by_cases c5 : b % 8 = 0
  case neg =>
    simp (maxSteps := 1000000) (disch := first | assumption | omega | rfl | decide) [↓rules, rules, lit_u64, aEval_U, splice_nil, splice_zero, splice_step, gset_gset, Int.ofNat_inj, U_junk, U_cells, U_cellOk, ub_and, ub_or, ub_xor, ub_andNot, ub_add, ub_sub, ub_mul, ub_shl, ub_shr, ub_shl', ub_shr', ub_eql, ub_neq, ub_lss, ub_leq, ub_gtr, ub_geq, rc33, tf53_0, tf53_1, tf53_2, ta3, ts3, ta53, ts53, c1, c2, c3, c4, c5, e1, e3, bin_rem]
    refine done_q hdom kn ?_ ?_; · rfl
    rw [goodG_no (by omega)]; rfl
  by_cases c6 : a + 2 ≤ c
  case neg =>
    simp (maxSteps := 1000000) (disch := first | assumption | omega | rfl | decide) [↓rules, rules, lit_u64, aEval_U, splice_nil, splice_zero, splice_step, gset_gset, Int.ofNat_inj, U_junk, U_cells, U_cellOk, ub_and, ub_or, ub_xor, ub_andNot, ub_add, ub_sub, ub_mul, ub_shl, ub_shr, ub_shl', ub_shr', ub_eql, ub_neq, ub_lss, ub_leq, ub_gtr, ub_geq, rc33, tf53_0, tf53_1, tf53_2, ta3, ts3, ta53, ts53, c1, c2, c3, c4, c5, c6, e1, e2, e3, bin_rem]
    refine done_q hdom kn ?_ ?_; · rfl
    rw [goodG_no (by omega)]; rfl
  simp (maxSteps := 1000000) (disch := first | assumption | omega | rfl | decide) [↓rules, rules, lit_u64, aEval_U, splice_nil, splice_zero, splice_step, gset_gset, Int.ofNat_inj, U_junk, U_cells, U_cellOk, ub_and, ub_or, ub_xor, ub_andNot, ub_add, ub_sub, ub_mul, ub_shl, ub_shr, ub_shl', ub_shr', ub_eql, ub_neq, ub_lss, ub_leq, ub_gtr, ub_geq, rc33, tf53_0, tf53_1, tf53_2, ta3, ts3, ta53, ts53, c1, c2, c3, c4, c5, c6, e1, e2, e3, bin_rem]
  refine done_q hdom kn ?_ ?_; · rfl
  have : goodG a b c = decide (c ≤ 48) := by unfold goodG; rw [decide_eq_decide]; omega
  rw [this]; rfl
def copyG (a b c : Int) : Int := if goodG a b c = true then 16 + a * 1208 + 2 * b + 8 * c else 0
def rowsG (a b c : Int) : Int := if goodG a b c = true then copyG a b c / 8 + 1 else 0
def lockG (a b c : Int) : Int := if goodG a b c = true then 8 else 0
def descG (a b c i : Int) : Int × Int := if goodG a b c = true ∧ 0 ≤ i ∧ i < a then (16 + i * 1208, 1208) else (0, 0)
def slotG (a b c i : Int) : Int := if goodG a b c = true ∧ 0 ≤ i ∧ i < b then 16 + a * 1208 + 2 * i else 0
def thingG (a b c i : Int) : Int := if goodG a b c = true ∧ 0 ≤ i ∧ i < c then 16 + a * 1208 + 2 * b + 8 * i else 0
def rootG (a b c i : Int) : Int := if goodG a b c = true ∧ 0 ≤ i ∧ i < a then 8 * i else 0
theorem CopyG (a b c : Int) (g : AMem) (n : Nat) : FnC Try.prog 28 [gv a b c] g n (fun _ => False) (.int .i64 (copyG a b c)) g n := by
  refine fnC_of_rwp t28 hm rfl fun hdom => ?_
  have kn := (Kept.refl hdom).new (.row [.int .i64 a, .int .i64 b, .int .i64 c] true)
  simp (maxSteps := 1000000) (disch := first | assumption | omega | rfl | decide) [↓rules, rules, lit_u64, aEval_U, splice_nil, splice_zero, splice_step, gset_gset, Int.ofNat_inj, U_junk, U_cells, U_cellOk, ub_and, ub_or, ub_xor, ub_andNot, ub_add, ub_sub, ub_mul, ub_shl, ub_shr, ub_shl', ub_shr', ub_eql, ub_neq, ub_lss, ub_leq, ub_gtr, ub_geq, rc28, tf45_0, tf45_1, tf45_2, ta3, ts3, ta45, ts45]
  refine rcall_quiet rfl (GoodG _ _ _ _ _) ?_
  cases hg : goodG a b c
  · simp (maxSteps := 1000000) (disch := first | assumption | omega | rfl | decide) [↓rules, rules, lit_u64, aEval_U, splice_nil, splice_zero, splice_step, gset_gset, Int.ofNat_inj, U_junk, U_cells, U_cellOk, ub_and, ub_or, ub_xor, ub_andNot, ub_add, ub_sub, ub_mul, ub_shl, ub_shr, ub_shl', ub_shr', ub_eql, ub_neq, ub_lss, ub_leq, ub_gtr, ub_geq]
    refine done_q hdom kn ?_ ?_; · rfl
    rw [copyG, hg]; rfl
  have ok := goodG_iff.1 hg
  have e1 : IntKind.i64.wrap (8 * c) = 8 * c := wrap_i64 (by omega) (by omega)
  have e2 : IntKind.i64.wrap (16 + a * 1208 + 2 * b + 8 * c) = 16 + a * 1208 + 2 * b + 8 * c := wrap_i64 (by omega) (by omega)
  have e3 : IntKind.i64.wrap (2 * b) = 2 * b := wrap_i64 (by omega) (by omega)
  have e4 : IntKind.i64.wrap (16 + a * 1208 + 2 * b) = 16 + a * 1208 + 2 * b := wrap_i64 (by omega) (by omega)
  simp (maxSteps := 1000000) (disch := first | assumption | omega | rfl | decide) [↓rules, rules, lit_u64, aEval_U, splice_nil, splice_zero, splice_step, gset_gset, Int.ofNat_inj, U_junk, U_cells, U_cellOk, ub_and, ub_or, ub_xor, ub_andNot, ub_add, ub_sub, ub_mul, ub_shl, ub_shr, ub_shl', ub_shr', ub_eql, ub_neq, ub_lss, ub_leq, ub_gtr, ub_geq, tf45_0, tf45_1, tf45_2, ta3, ts3, ta45, ts45]
  refine rcall_quiet rfl (thingsAt a b c (by omega) (by omega) _ _) ?_
  simp (maxSteps := 1000000) (disch := first | assumption | omega | rfl | decide) [↓rules, rules, lit_u64, aEval_U, splice_nil, splice_zero, splice_step, gset_gset, Int.ofNat_inj, U_junk, U_cells, U_cellOk, ub_and, ub_or, ub_xor, ub_andNot, ub_add, ub_sub, ub_mul, ub_shl, ub_shr, ub_shl', ub_shr', ub_eql, ub_neq, ub_lss, ub_leq, ub_gtr, ub_geq, tf45_0, tf45_1, tf45_2, ta3, ts3, ta45, ts45, e1, e2, e3, e4]
  refine done_q hdom kn ?_ ?_; · rfl
  rw [copyG, if_pos hg]; rfl
theorem CopyR (a b c : Int) (g : AMem) (n : Nat) : FnC Try.prog 37 [gv a b c] g n (fun _ => False) (.int .i64 (copyG a b c)) g n := by
  refine fnC_of_rwp t37 hm rfl fun hdom => ?_
  have kn := (Kept.refl hdom).new (.row [.int .i64 a, .int .i64 b, .int .i64 c] true)
  simp (maxSteps := 1000000) (disch := first | assumption | omega | rfl | decide) [↓rules, rules, lit_u64, aEval_U, splice_nil, splice_zero, splice_step, gset_gset, Int.ofNat_inj, U_junk, U_cells, U_cellOk, ub_and, ub_or, ub_xor, ub_andNot, ub_add, ub_sub, ub_mul, ub_shl, ub_shr, ub_shl', ub_shr', ub_eql, ub_neq, ub_lss, ub_leq, ub_gtr, ub_geq, rc37, tf53_0, tf53_1, tf53_2, ta3, ts3, ta53, ts53]
  refine rcall_quiet rfl (GoodR _ _ _ _ _) ?_
  cases hg : goodG a b c
  · simp (maxSteps := 1000000) (disch := first | assumption | omega | rfl | decide) [↓rules, rules, lit_u64, aEval_U, splice_nil, splice_zero, splice_step, gset_gset, Int.ofNat_inj, U_junk, U_cells, U_cellOk, ub_and, ub_or, ub_xor, ub_andNot, ub_add, ub_sub, ub_mul, ub_shl, ub_shr, ub_shl', ub_shr', ub_eql, ub_neq, ub_lss, ub_leq, ub_gtr, ub_geq]
    refine done_q hdom kn ?_ ?_; · rfl
    rw [copyG, hg]; rfl
  have ok := goodG_iff.1 hg
  have e1 : IntKind.i64.wrap (8 * c) = 8 * c := wrap_i64 (by omega) (by omega)
  have e2 : IntKind.i64.wrap (16 + a * 1208 + 2 * b + 8 * c) = 16 + a * 1208 + 2 * b + 8 * c := wrap_i64 (by omega) (by omega)
  have e3 : IntKind.i64.wrap (2 * b) = 2 * b := wrap_i64 (by omega) (by omega)
  have e4 : IntKind.i64.wrap (16 + a * 1208 + 2 * b) = 16 + a * 1208 + 2 * b := wrap_i64 (by omega) (by omega)
  simp (maxSteps := 1000000) (disch := first | assumption | omega | rfl | decide) [↓rules, rules, lit_u64, aEval_U, splice_nil, splice_zero, splice_step, gset_gset, Int.ofNat_inj, U_junk, U_cells, U_cellOk, ub_and, ub_or, ub_xor, ub_andNot, ub_add, ub_sub, ub_mul, ub_shl, ub_shr, ub_shl', ub_shr', ub_eql, ub_neq, ub_lss, ub_leq, ub_gtr, ub_geq, tf53_0, tf53_1, tf53_2, ta3, ts3, ta53, ts53]
  refine rcall_quiet rfl (slotsR a b c (by omega) _ _) ?_
  simp (maxSteps := 1000000) (disch := first | assumption | omega | rfl | decide) [↓rules, rules, lit_u64, aEval_U, splice_nil, splice_zero, splice_step, gset_gset, Int.ofNat_inj, U_junk, U_cells, U_cellOk, ub_and, ub_or, ub_xor, ub_andNot, ub_add, ub_sub, ub_mul, ub_shl, ub_shr, ub_shl', ub_shr', ub_eql, ub_neq, ub_lss, ub_leq, ub_gtr, ub_geq, tf53_0, tf53_1, tf53_2, ta3, ts3, ta53, ts53, e1, e2, e3, e4]
  refine done_q hdom kn ?_ ?_; · rfl
  rw [copyG, if_pos hg]; rfl
theorem RowsG (a b c : Int) (g : AMem) (n : Nat) : FnC Try.prog 24 [gv a b c] g n (fun _ => False) (.int .i64 (rowsG a b c)) g n := by
  refine fnC_of_rwp t24 hm rfl fun hdom => ?_
  have kn := (Kept.refl hdom).new (.row [.int .i64 a, .int .i64 b, .int .i64 c] true)
  simp (maxSteps := 1000000) (disch := first | assumption | omega | rfl | decide) [↓rules, rules, lit_u64, aEval_U, splice_nil, splice_zero, splice_step, gset_gset, Int.ofNat_inj, U_junk, U_cells, U_cellOk, ub_and, ub_or, ub_xor, ub_andNot, ub_add, ub_sub, ub_mul, ub_shl, ub_shr, ub_shl', ub_shr', ub_eql, ub_neq, ub_lss, ub_leq, ub_gtr, ub_geq, rc24, tf45_0, tf45_1, tf45_2, ta3, ts3, ta45, ts45]
  refine rcall_quiet rfl (GoodG _ _ _ _ _) ?_
  cases hg : goodG a b c
  · simp (maxSteps := 1000000) (disch := first | assumption | omega | rfl | decide) [↓rules, rules, lit_u64, aEval_U, splice_nil, splice_zero, splice_step, gset_gset, Int.ofNat_inj, U_junk, U_cells, U_cellOk, ub_and, ub_or, ub_xor, ub_andNot, ub_add, ub_sub, ub_mul, ub_shl, ub_shr, ub_shl', ub_shr', ub_eql, ub_neq, ub_lss, ub_leq, ub_gtr, ub_geq]
    refine done_q hdom kn ?_ ?_; · rfl
    rw [rowsG, hg]; rfl
  have ok := goodG_iff.1 hg
  simp (maxSteps := 1000000) (disch := first | assumption | omega | rfl | decide) [↓rules, rules, lit_u64, aEval_U, splice_nil, splice_zero, splice_step, gset_gset, Int.ofNat_inj, U_junk, U_cells, U_cellOk, ub_and, ub_or, ub_xor, ub_andNot, ub_add, ub_sub, ub_mul, ub_shl, ub_shr, ub_shl', ub_shr', ub_eql, ub_neq, ub_lss, ub_leq, ub_gtr, ub_geq, tf45_0, tf45_1, tf45_2, ta3, ts3, ta45, ts45]
  refine rcall_quiet rfl (CopyG a b c _ _) ?_
  have hc : 0 ≤ copyG a b c ∧ copyG a b c ≤ 10000 := by rw [copyG, if_pos hg]; omega
  have e1 : IntKind.i64.wrap ((copyG a b c).tdiv 8) = copyG a b c / 8 := by
    rw [Int.tdiv_eq_ediv_of_nonneg hc.1]; exact wrap_i64 (by omega) (by omega)
  have e2 : IntKind.i64.wrap (copyG a b c / 8 + 1) = copyG a b c / 8 + 1 := wrap_i64 (by omega) (by omega)
  simp (maxSteps := 1000000) (disch := first | assumption | omega | rfl | decide) [↓rules, rules, lit_u64, aEval_U, splice_nil, splice_zero, splice_step, gset_gset, Int.ofNat_inj, U_junk, U_cells, U_cellOk, ub_and, ub_or, ub_xor, ub_andNot, ub_add, ub_sub, ub_mul, ub_shl, ub_shr, ub_shl', ub_shr', ub_eql, ub_neq, ub_lss, ub_leq, ub_gtr, ub_geq, bin_quo, e1, e2]
  refine done_q hdom kn ?_ ?_; · rfl
  rw [rowsG, if_pos hg]; rfl
theorem RowsR (a b c : Int) (g : AMem) (n : Nat) : FnC Try.prog 34 [gv a b c] g n (fun _ => False) (.int .i64 (rowsG a b c)) g n := by
  refine fnC_of_rwp t34 hm rfl fun hdom => ?_
  have kn := (Kept.refl hdom).new (.row [.int .i64 a, .int .i64 b, .int .i64 c] true)
  simp (maxSteps := 1000000) (disch := first | assumption | omega | rfl | decide) [↓rules, rules, lit_u64, aEval_U, splice_nil, splice_zero, splice_step, gset_gset, Int.ofNat_inj, U_junk, U_cells, U_cellOk, ub_and, ub_or, ub_xor, ub_andNot, ub_add, ub_sub, ub_mul, ub_shl, ub_shr, ub_shl', ub_shr', ub_eql, ub_neq, ub_lss, ub_leq, ub_gtr, ub_geq, rc34, tf53_0, tf53_1, tf53_2, ta3, ts3, ta53, ts53]
  refine rcall_quiet rfl (GoodR _ _ _ _ _) ?_
  cases hg : goodG a b c
  · simp (maxSteps := 1000000) (disch := first | assumption | omega | rfl | decide) [↓rules, rules, lit_u64, aEval_U, splice_nil, splice_zero, splice_step, gset_gset, Int.ofNat_inj, U_junk, U_cells, U_cellOk, ub_and, ub_or, ub_xor, ub_andNot, ub_add, ub_sub, ub_mul, ub_shl, ub_shr, ub_shl', ub_shr', ub_eql, ub_neq, ub_lss, ub_leq, ub_gtr, ub_geq]
    refine done_q hdom kn ?_ ?_; · rfl
    rw [rowsG, hg]; rfl
  have ok := goodG_iff.1 hg
  simp (maxSteps := 1000000) (disch := first | assumption | omega | rfl | decide) [↓rules, rules, lit_u64, aEval_U, splice_nil, splice_zero, splice_step, gset_gset, Int.ofNat_inj, U_junk, U_cells, U_cellOk, ub_and, ub_or, ub_xor, ub_andNot, ub_add, ub_sub, ub_mul, ub_shl, ub_shr, ub_shl', ub_shr', ub_eql, ub_neq, ub_lss, ub_leq, ub_gtr, ub_geq, tf53_0, tf53_1, tf53_2, ta3, ts3, ta53, ts53]
  refine rcall_quiet rfl (CopyR a b c _ _) ?_
  have hc : 0 ≤ copyG a b c ∧ copyG a b c ≤ 10000 := by rw [copyG, if_pos hg]; omega
  have e1 : IntKind.i64.wrap ((copyG a b c).tdiv 8) = copyG a b c / 8 := by
    rw [Int.tdiv_eq_ediv_of_nonneg hc.1]; exact wrap_i64 (by omega) (by omega)
  have e2 : IntKind.i64.wrap (copyG a b c / 8 + 1) = copyG a b c / 8 + 1 := wrap_i64 (by omega) (by omega)
  simp (maxSteps := 1000000) (disch := first | assumption | omega | rfl | decide) [↓rules, rules, lit_u64, aEval_U, splice_nil, splice_zero, splice_step, gset_gset, Int.ofNat_inj, U_junk, U_cells, U_cellOk, ub_and, ub_or, ub_xor, ub_andNot, ub_add, ub_sub, ub_mul, ub_shl, ub_shr, ub_shl', ub_shr', ub_eql, ub_neq, ub_lss, ub_leq, ub_gtr, ub_geq, bin_quo, e1, e2]
  refine done_q hdom kn ?_ ?_; · rfl
  rw [rowsG, if_pos hg]; rfl
theorem LockG (a b c : Int) (g : AMem) (n : Nat) : FnC Try.prog 25 [gv a b c] g n (fun _ => False) (.int .i64 (lockG a b c)) g n := by
  refine fnC_of_rwp t25 hm rfl fun hdom => ?_
  have kn := (Kept.refl hdom).new (.row [.int .i64 a, .int .i64 b, .int .i64 c] true)
  simp (maxSteps := 1000000) (disch := first | assumption | omega | rfl | decide) [↓rules, rules, lit_u64, aEval_U, splice_nil, splice_zero, splice_step, gset_gset, Int.ofNat_inj, U_junk, U_cells, U_cellOk, ub_and, ub_or, ub_xor, ub_andNot, ub_add, ub_sub, ub_mul, ub_shl, ub_shr, ub_shl', ub_shr', ub_eql, ub_neq, ub_lss, ub_leq, ub_gtr, ub_geq, rc25, tf45_0, tf45_1, tf45_2, ta3, ts3, ta45, ts45]
  refine rcall_quiet rfl (GoodG _ _ _ _ _) ?_
  cases hg : goodG a b c
  · simp (maxSteps := 1000000) (disch := first | assumption | omega | rfl | decide) [↓rules, rules, lit_u64, aEval_U, splice_nil, splice_zero, splice_step, gset_gset, Int.ofNat_inj, U_junk, U_cells, U_cellOk, ub_and, ub_or, ub_xor, ub_andNot, ub_add, ub_sub, ub_mul, ub_shl, ub_shr, ub_shl', ub_shr', ub_eql, ub_neq, ub_lss, ub_leq, ub_gtr, ub_geq]
    refine done_q hdom kn ?_ ?_; · rfl
    rw [lockG, hg]; rfl
  simp (maxSteps := 1000000) (disch := first | assumption | omega | rfl | decide) [↓rules, rules, lit_u64, aEval_U, splice_nil, splice_zero, splice_step, gset_gset, Int.ofNat_inj, U_junk, U_cells, U_cellOk, ub_and, ub_or, ub_xor, ub_andNot, ub_add, ub_sub, ub_mul, ub_shl, ub_shr, ub_shl', ub_shr', ub_eql, ub_neq, ub_lss, ub_leq, ub_gtr, ub_geq]
  refine done_q hdom kn ?_ ?_; · rfl
  rw [lockG, if_pos hg]; rfl
theorem DescG (a b c i : Int) (g : AMem) (n : Nat) : FnC Try.prog 22 [gv a b c, .int .i64 i] g n (fun _ => False) (.tuple #[.int .i64 (descG a b c i).1, .int .i64 (descG a b c i).2]) g n := by
  refine fnC_of_rwp t22 hm rfl fun hdom => ?_
  have kn := (Kept.refl hdom).new (.row [.int .i64 a, .int .i64 b, .int .i64 c] true)
  simp (maxSteps := 1000000) (disch := first | assumption | omega | rfl | decide) [↓rules, rules, lit_u64, aEval_U, splice_nil, splice_zero, splice_step, gset_gset, Int.ofNat_inj, U_junk, U_cells, U_cellOk, ub_and, ub_or, ub_xor, ub_andNot, ub_add, ub_sub, ub_mul, ub_shl, ub_shr, ub_shl', ub_shr', ub_eql, ub_neq, ub_lss, ub_leq, ub_gtr, ub_geq, rc22, tf45_0, tf45_1, tf45_2, ta3, ts3, ta45, ts45]
  refine rcall_quiet rfl (GoodG _ _ _ _ _) ?_
  cases hg : goodG a b c
  · simp (maxSteps := 1000000) (disch := first | assumption | omega | rfl | decide) [↓rules, rules, lit_u64, aEval_U, splice_nil, splice_zero, splice_step, gset_gset, Int.ofNat_inj, U_junk, U_cells, U_cellOk, ub_and, ub_or, ub_xor, ub_andNot, ub_add, ub_sub, ub_mul, ub_shl, ub_shr, ub_shl', ub_shr', ub_eql, ub_neq, ub_lss, ub_leq, ub_gtr, ub_geq]
    refine done_q hdom kn ?_ ?_; · rfl
    rw [descG, if_neg (fun h => by rw [hg] at h; cases h.1)]; rfl
  have ok := goodG_iff.1 hg
  have e0 : IntKind.i64.wrap (a - 1) = a - 1 := wrap_i64 (by omega) (by omega)
  simp (maxSteps := 1000000) (disch := first | assumption | omega | rfl | decide) [↓rules, rules, lit_u64, aEval_U, splice_nil, splice_zero, splice_step, gset_gset, Int.ofNat_inj, U_junk, U_cells, U_cellOk, ub_and, ub_or, ub_xor, ub_andNot, ub_add, ub_sub, ub_mul, ub_shl, ub_shr, ub_shl', ub_shr', ub_eql, ub_neq, ub_lss, ub_leq, ub_gtr, ub_geq, tf45_0, tf45_1, tf45_2, ta3, ts3, ta45, ts45, e0]
  refine rcall_quiet rfl (inG _ _ _ _ _) ?_
  by_cases c1 : 0 ≤ i ∧ i ≤ a - 1
  case neg =>
    simp (maxSteps := 1000000) (disch := first | assumption | omega | rfl | decide) [↓rules, rules, lit_u64, aEval_U, splice_nil, splice_zero, splice_step, gset_gset, Int.ofNat_inj, U_junk, U_cells, U_cellOk, ub_and, ub_or, ub_xor, ub_andNot, ub_add, ub_sub, ub_mul, ub_shl, ub_shr, ub_shl', ub_shr', ub_eql, ub_neq, ub_lss, ub_leq, ub_gtr, ub_geq, c1]
    refine done_q hdom kn ?_ ?_; · rfl
    rw [descG, if_neg (by omega)]; rfl
  have e1 : IntKind.i64.wrap (i * 1208) = i * 1208 := wrap_i64 (by omega) (by omega)
  have e2 : IntKind.i64.wrap (16 + i * 1208) = 16 + i * 1208 := wrap_i64 (by omega) (by omega)
  simp (maxSteps := 1000000) (disch := first | assumption | omega | rfl | decide) [↓rules, rules, lit_u64, aEval_U, splice_nil, splice_zero, splice_step, gset_gset, Int.ofNat_inj, U_junk, U_cells, U_cellOk, ub_and, ub_or, ub_xor, ub_andNot, ub_add, ub_sub, ub_mul, ub_shl, ub_shr, ub_shl', ub_shr', ub_eql, ub_neq, ub_lss, ub_leq, ub_gtr, ub_geq, c1, tf45_0, tf45_1, tf45_2, ta3, ts3, ta45, ts45, e1, e2]
  refine done_q hdom kn ?_ ?_; · rfl
  rw [descG, if_pos ⟨hg, by omega, by omega⟩]; rfl
theorem SlotG (a b c i : Int) (g : AMem) (n : Nat) : FnC Try.prog 26 [gv a b c, .int .i64 i] g n (fun _ => False) (.int .i64 (slotG a b c i)) g n := by
  refine fnC_of_rwp t26 hm rfl fun hdom => ?_
  have kn := (Kept.refl hdom).new (.row [.int .i64 a, .int .i64 b, .int .i64 c] true)
  simp (maxSteps := 1000000) (disch := first | assumption | omega | rfl | decide) [↓rules, rules, lit_u64, aEval_U, splice_nil, splice_zero, splice_step, gset_gset, Int.ofNat_inj, U_junk, U_cells, U_cellOk, ub_and, ub_or, ub_xor, ub_andNot, ub_add, ub_sub, ub_mul, ub_shl, ub_shr, ub_shl', ub_shr', ub_eql, ub_neq, ub_lss, ub_leq, ub_gtr, ub_geq, rc26, tf45_0, tf45_1, tf45_2, ta3, ts3, ta45, ts45]
  refine rcall_quiet rfl (GoodG _ _ _ _ _) ?_
  cases hg : goodG a b c
  · simp (maxSteps := 1000000) (disch := first | assumption | omega | rfl | decide) [↓rules, rules, lit_u64, aEval_U, splice_nil, splice_zero, splice_step, gset_gset, Int.ofNat_inj, U_junk, U_cells, U_cellOk, ub_and, ub_or, ub_xor, ub_andNot, ub_add, ub_sub, ub_mul, ub_shl, ub_shr, ub_shl', ub_shr', ub_eql, ub_neq, ub_lss, ub_leq, ub_gtr, ub_geq]
    refine done_q hdom kn ?_ ?_; · rfl
    rw [slotG, if_neg (fun h => by rw [hg] at h; cases h.1)]; rfl
  have ok := goodG_iff.1 hg
  have e0 : IntKind.i64.wrap (b - 1) = b - 1 := wrap_i64 (by omega) (by omega)
  simp (maxSteps := 1000000) (disch := first | assumption | omega | rfl | decide) [↓rules, rules, lit_u64, aEval_U, splice_nil, splice_zero, splice_step, gset_gset, Int.ofNat_inj, U_junk, U_cells, U_cellOk, ub_and, ub_or, ub_xor, ub_andNot, ub_add, ub_sub, ub_mul, ub_shl, ub_shr, ub_shl', ub_shr', ub_eql, ub_neq, ub_lss, ub_leq, ub_gtr, ub_geq, tf45_0, tf45_1, tf45_2, ta3, ts3, ta45, ts45, e0]
  refine rcall_quiet rfl (inG _ _ _ _ _) ?_
  by_cases c1 : 0 ≤ i ∧ i ≤ b - 1
  case neg =>
    simp (maxSteps := 1000000) (disch := first | assumption | omega | rfl | decide) [↓rules, rules, lit_u64, aEval_U, splice_nil, splice_zero, splice_step, gset_gset, Int.ofNat_inj, U_junk, U_cells, U_cellOk, ub_and, ub_or, ub_xor, ub_andNot, ub_add, ub_sub, ub_mul, ub_shl, ub_shr, ub_shl', ub_shr', ub_eql, ub_neq, ub_lss, ub_leq, ub_gtr, ub_geq, c1]
    refine done_q hdom kn ?_ ?_; · rfl
    rw [slotG, if_neg (by omega)]; rfl
  have e1 : IntKind.i64.wrap (2 * i) = 2 * i := wrap_i64 (by omega) (by omega)
  have e2 : IntKind.i64.wrap (16 + a * 1208 + 2 * i) = 16 + a * 1208 + 2 * i := wrap_i64 (by omega) (by omega)
  simp (maxSteps := 1000000) (disch := first | assumption | omega | rfl | decide) [↓rules, rules, lit_u64, aEval_U, splice_nil, splice_zero, splice_step, gset_gset, Int.ofNat_inj, U_junk, U_cells, U_cellOk, ub_and, ub_or, ub_xor, ub_andNot, ub_add, ub_sub, ub_mul, ub_shl, ub_shr, ub_shl', ub_shr', ub_eql, ub_neq, ub_lss, ub_leq, ub_gtr, ub_geq, c1, tf45_0, tf45_1, tf45_2, ta3, ts3, ta45, ts45, e1, e2]
  refine rcall_quiet rfl (slotsAt a b c (by omega) _ _) ?_
  simp (maxSteps := 1000000) (disch := first | assumption | omega | rfl | decide) [↓rules, rules, lit_u64, aEval_U, splice_nil, splice_zero, splice_step, gset_gset, Int.ofNat_inj, U_junk, U_cells, U_cellOk, ub_and, ub_or, ub_xor, ub_andNot, ub_add, ub_sub, ub_mul, ub_shl, ub_shr, ub_shl', ub_shr', ub_eql, ub_neq, ub_lss, ub_leq, ub_gtr, ub_geq, tf45_0, tf45_1, tf45_2, ta3, ts3, ta45, ts45, e1, e2]
  refine done_q hdom kn ?_ ?_; · rfl
  rw [slotG, if_pos ⟨hg, by omega, by omega⟩]; rfl
theorem ThingG (a b c i : Int) (g : AMem) (n : Nat) : FnC Try.prog 27 [gv a b c, .int .i64 i] g n (fun _ => False) (.int .i64 (thingG a b c i)) g n := by
  refine fnC_of_rwp t27 hm rfl fun hdom => ?_
  have kn := (Kept.refl hdom).new (.row [.int .i64 a, .int .i64 b, .int .i64 c] true)
  simp (maxSteps := 1000000) (disch := first | assumption | omega | rfl | decide) [↓rules, rules, lit_u64, aEval_U, splice_nil, splice_zero, splice_step, gset_gset, Int.ofNat_inj, U_junk, U_cells, U_cellOk, ub_and, ub_or, ub_xor, ub_andNot, ub_add, ub_sub, ub_mul, ub_shl, ub_shr, ub_shl', ub_shr', ub_eql, ub_neq, ub_lss, ub_leq, ub_gtr, ub_geq, rc27, tf45_0, tf45_1, tf45_2, ta3, ts3, ta45, ts45]
  refine rcall_quiet rfl (GoodG _ _ _ _ _) ?_
  cases hg : goodG a b c
  · simp (maxSteps := 1000000) (disch := first | assumption | omega | rfl | decide) [↓rules, rules, lit_u64, aEval_U, splice_nil, splice_zero, splice_step, gset_gset, Int.ofNat_inj, U_junk, U_cells, U_cellOk, ub_and, ub_or, ub_xor, ub_andNot, ub_add, ub_sub, ub_mul, ub_shl, ub_shr, ub_shl', ub_shr', ub_eql, ub_neq, ub_lss, ub_leq, ub_gtr, ub_geq]
    refine done_q hdom kn ?_ ?_; · rfl
    rw [thingG, if_neg (fun h => by rw [hg] at h; cases h.1)]; rfl
  have ok := goodG_iff.1 hg
  have e0 : IntKind.i64.wrap (c - 1) = c - 1 := wrap_i64 (by omega) (by omega)
  simp (maxSteps := 1000000) (disch := first | assumption | omega | rfl | decide) [↓rules, rules, lit_u64, aEval_U, splice_nil, splice_zero, splice_step, gset_gset, Int.ofNat_inj, U_junk, U_cells, U_cellOk, ub_and, ub_or, ub_xor, ub_andNot, ub_add, ub_sub, ub_mul, ub_shl, ub_shr, ub_shl', ub_shr', ub_eql, ub_neq, ub_lss, ub_leq, ub_gtr, ub_geq, tf45_0, tf45_1, tf45_2, ta3, ts3, ta45, ts45, e0]
  refine rcall_quiet rfl (inG _ _ _ _ _) ?_
  by_cases c1 : 0 ≤ i ∧ i ≤ c - 1
  case neg =>
    simp (maxSteps := 1000000) (disch := first | assumption | omega | rfl | decide) [↓rules, rules, lit_u64, aEval_U, splice_nil, splice_zero, splice_step, gset_gset, Int.ofNat_inj, U_junk, U_cells, U_cellOk, ub_and, ub_or, ub_xor, ub_andNot, ub_add, ub_sub, ub_mul, ub_shl, ub_shr, ub_shl', ub_shr', ub_eql, ub_neq, ub_lss, ub_leq, ub_gtr, ub_geq, c1]
    refine done_q hdom kn ?_ ?_; · rfl
    rw [thingG, if_neg (by omega)]; rfl
  have e1 : IntKind.i64.wrap (8 * i) = 8 * i := wrap_i64 (by omega) (by omega)
  have e2 : IntKind.i64.wrap (16 + a * 1208 + 2 * b + 8 * i) = 16 + a * 1208 + 2 * b + 8 * i := wrap_i64 (by omega) (by omega)
  simp (maxSteps := 1000000) (disch := first | assumption | omega | rfl | decide) [↓rules, rules, lit_u64, aEval_U, splice_nil, splice_zero, splice_step, gset_gset, Int.ofNat_inj, U_junk, U_cells, U_cellOk, ub_and, ub_or, ub_xor, ub_andNot, ub_add, ub_sub, ub_mul, ub_shl, ub_shr, ub_shl', ub_shr', ub_eql, ub_neq, ub_lss, ub_leq, ub_gtr, ub_geq, c1, tf45_0, tf45_1, tf45_2, ta3, ts3, ta45, ts45, e1, e2]
  refine rcall_quiet rfl (thingsAt a b c (by omega) (by omega) _ _) ?_
  simp (maxSteps := 1000000) (disch := first | assumption | omega | rfl | decide) [↓rules, rules, lit_u64, aEval_U, splice_nil, splice_zero, splice_step, gset_gset, Int.ofNat_inj, U_junk, U_cells, U_cellOk, ub_and, ub_or, ub_xor, ub_andNot, ub_add, ub_sub, ub_mul, ub_shl, ub_shr, ub_shl', ub_shr', ub_eql, ub_neq, ub_lss, ub_leq, ub_gtr, ub_geq, tf45_0, tf45_1, tf45_2, ta3, ts3, ta45, ts45, e1, e2]
  refine done_q hdom kn ?_ ?_; · rfl
  rw [thingG, if_pos ⟨hg, by omega, by omega⟩]; rfl
theorem RootG (a b c i : Int) (g : AMem) (n : Nat) : FnC Try.prog 29 [gv a b c, .int .i64 i] g n (fun _ => False) (.int .i64 (rootG a b c i)) g n := by
  refine fnC_of_rwp t29 hm rfl fun hdom => ?_
  have kn := (Kept.refl hdom).new (.row [.int .i64 a, .int .i64 b, .int .i64 c] true)
  simp (maxSteps := 1000000) (disch := first | assumption | omega | rfl | decide) [↓rules, rules, lit_u64, aEval_U, splice_nil, splice_zero, splice_step, gset_gset, Int.ofNat_inj, U_junk, U_cells, U_cellOk, ub_and, ub_or, ub_xor, ub_andNot, ub_add, ub_sub, ub_mul, ub_shl, ub_shr, ub_shl', ub_shr', ub_eql, ub_neq, ub_lss, ub_leq, ub_gtr, ub_geq, rc29, tf45_0, tf45_1, tf45_2, ta3, ts3, ta45, ts45]
  refine rcall_quiet rfl (GoodG _ _ _ _ _) ?_
  cases hg : goodG a b c
  · simp (maxSteps := 1000000) (disch := first | assumption | omega | rfl | decide) [↓rules, rules, lit_u64, aEval_U, splice_nil, splice_zero, splice_step, gset_gset, Int.ofNat_inj, U_junk, U_cells, U_cellOk, ub_and, ub_or, ub_xor, ub_andNot, ub_add, ub_sub, ub_mul, ub_shl, ub_shr, ub_shl', ub_shr', ub_eql, ub_neq, ub_lss, ub_leq, ub_gtr, ub_geq]
    refine done_q hdom kn ?_ ?_; · rfl
    rw [rootG, if_neg (fun h => by rw [hg] at h; cases h.1)]; rfl
  have ok := goodG_iff.1 hg
  have e0 : IntKind.i64.wrap (a - 1) = a - 1 := wrap_i64 (by omega) (by omega)
  simp (maxSteps := 1000000) (disch := first | assumption | omega | rfl | decide) [↓rules, rules, lit_u64, aEval_U, splice_nil, splice_zero, splice_step, gset_gset, Int.ofNat_inj, U_junk, U_cells, U_cellOk, ub_and, ub_or, ub_xor, ub_andNot, ub_add, ub_sub, ub_mul, ub_shl, ub_shr, ub_shl', ub_shr', ub_eql, ub_neq, ub_lss, ub_leq, ub_gtr, ub_geq, tf45_0, tf45_1, tf45_2, ta3, ts3, ta45, ts45, e0]
  refine rcall_quiet rfl (inG _ _ _ _ _) ?_
  by_cases c1 : 0 ≤ i ∧ i ≤ a - 1
  case neg =>
    simp (maxSteps := 1000000) (disch := first | assumption | omega | rfl | decide) [↓rules, rules, lit_u64, aEval_U, splice_nil, splice_zero, splice_step, gset_gset, Int.ofNat_inj, U_junk, U_cells, U_cellOk, ub_and, ub_or, ub_xor, ub_andNot, ub_add, ub_sub, ub_mul, ub_shl, ub_shr, ub_shl', ub_shr', ub_eql, ub_neq, ub_lss, ub_leq, ub_gtr, ub_geq, c1]
    refine done_q hdom kn ?_ ?_; · rfl
    rw [rootG, if_neg (by omega)]; rfl
  have e1 : IntKind.i64.wrap (8 * i) = 8 * i := wrap_i64 (by omega) (by omega)
  simp (maxSteps := 1000000) (disch := first | assumption | omega | rfl | decide) [↓rules, rules, lit_u64, aEval_U, splice_nil, splice_zero, splice_step, gset_gset, Int.ofNat_inj, U_junk, U_cells, U_cellOk, ub_and, ub_or, ub_xor, ub_andNot, ub_add, ub_sub, ub_mul, ub_shl, ub_shr, ub_shl', ub_shr', ub_eql, ub_neq, ub_lss, ub_leq, ub_gtr, ub_geq, c1, tf45_0, tf45_1, tf45_2, ta3, ts3, ta45, ts45, e1]
  refine done_q hdom kn ?_ ?_; · rfl
  rw [rootG, if_pos ⟨hg, by omega, by omega⟩]; rfl
theorem DescR (a b c i : Int) (g : AMem) (n : Nat) : FnC Try.prog 32 [gv a b c, .int .i64 i] g n (fun _ => False) (.tuple #[.int .i64 (descG a b c i).1, .int .i64 (descG a b c i).2]) g n := by
  refine fnC_of_rwp t32 hm rfl fun hdom => ?_
  have kn := (Kept.refl hdom).new (.row [.int .i64 a, .int .i64 b, .int .i64 c] true)
  simp (maxSteps := 1000000) (disch := first | assumption | omega | rfl | decide) [↓rules, rules, lit_u64, aEval_U, splice_nil, splice_zero, splice_step, gset_gset, Int.ofNat_inj, U_junk, U_cells, U_cellOk, ub_and, ub_or, ub_xor, ub_andNot, ub_add, ub_sub, ub_mul, ub_shl, ub_shr, ub_shl', ub_shr', ub_eql, ub_neq, ub_lss, ub_leq, ub_gtr, ub_geq, rc32, tf53_0, tf53_1, tf53_2, ta3, ts3, ta53, ts53]
  refine rcall_quiet rfl (GoodR _ _ _ _ _) ?_
  cases hg : goodG a b c
  · simp (maxSteps := 1000000) (disch := first | assumption | omega | rfl | decide) [↓rules, rules, lit_u64, aEval_U, splice_nil, splice_zero, splice_step, gset_gset, Int.ofNat_inj, U_junk, U_cells, U_cellOk, ub_and, ub_or, ub_xor, ub_andNot, ub_add, ub_sub, ub_mul, ub_shl, ub_shr, ub_shl', ub_shr', ub_eql, ub_neq, ub_lss, ub_leq, ub_gtr, ub_geq]
    refine done_q hdom kn ?_ ?_; · rfl
    rw [descG, if_neg (fun h => by rw [hg] at h; cases h.1)]; rfl
  have ok := goodG_iff.1 hg
  by_cases c1 : i < 0
  · simp (maxSteps := 1000000) (disch := first | assumption | omega | rfl | decide) [↓rules, rules, lit_u64, aEval_U, splice_nil, splice_zero, splice_step, gset_gset, Int.ofNat_inj, U_junk, U_cells, U_cellOk, ub_and, ub_or, ub_xor, ub_andNot, ub_add, ub_sub, ub_mul, ub_shl, ub_shr, ub_shl', ub_shr', ub_eql, ub_neq, ub_lss, ub_leq, ub_gtr, ub_geq, c1]
    refine done_q hdom kn ?_ ?_; · rfl
    rw [descG, if_neg (by omega)]; rfl
  by_cases c2 : a ≤ i
  · simp (maxSteps := 1000000) (disch := first | assumption | omega | rfl | decide) [↓rules, rules, lit_u64, aEval_U, splice_nil, splice_zero, splice_step, gset_gset, Int.ofNat_inj, U_junk, U_cells, U_cellOk, ub_and, ub_or, ub_xor, ub_andNot, ub_add, ub_sub, ub_mul, ub_shl, ub_shr, ub_shl', ub_shr', ub_eql, ub_neq, ub_lss, ub_leq, ub_gtr, ub_geq, c1, c2, tf53_0, tf53_1, tf53_2, ta3, ts3, ta53, ts53]
    refine done_q hdom kn ?_ ?_; · rfl
    rw [descG, if_neg (by omega)]; rfl
  have e1 : IntKind.i64.wrap (i * 1208) = i * 1208 := wrap_i64 (by omega) (by omega)
  have e2 : IntKind.i64.wrap (16 + i * 1208) = 16 + i * 1208 := wrap_i64 (by omega) (by omega)
  simp (maxSteps := 1000000) (disch := first | assumption | omega | rfl | decide) [↓rules, rules, lit_u64, aEval_U, splice_nil, splice_zero, splice_step, gset_gset, Int.ofNat_inj, U_junk, U_cells, U_cellOk, ub_and, ub_or, ub_xor, ub_andNot, ub_add, ub_sub, ub_mul, ub_shl, ub_shr, ub_shl', ub_shr', ub_eql, ub_neq, ub_lss, ub_leq, ub_gtr, ub_geq, c1, c2, tf53_0, tf53_1, tf53_2, ta3, ts3, ta53, ts53, e1, e2]
  refine rcall_quiet rfl (long _ _) ?_
  simp (maxSteps := 1000000) (disch := first | assumption | omega | rfl | decide) [↓rules, rules, lit_u64, aEval_U, splice_nil, splice_zero, splice_step, gset_gset, Int.ofNat_inj, U_junk, U_cells, U_cellOk, ub_and, ub_or, ub_xor, ub_andNot, ub_add, ub_sub, ub_mul, ub_shl, ub_shr, ub_shl', ub_shr', ub_eql, ub_neq, ub_lss, ub_leq, ub_gtr, ub_geq, e1, e2]
  refine rcall_quiet rfl (long _ _) ?_
  simp (maxSteps := 1000000) (disch := first | assumption | omega | rfl | decide) [↓rules, rules, lit_u64, aEval_U, splice_nil, splice_zero, splice_step, gset_gset, Int.ofNat_inj, U_junk, U_cells, U_cellOk, ub_and, ub_or, ub_xor, ub_andNot, ub_add, ub_sub, ub_mul, ub_shl, ub_shr, ub_shl', ub_shr', ub_eql, ub_neq, ub_lss, ub_leq, ub_gtr, ub_geq, tf53_0, tf53_1, tf53_2, ta3, ts3, ta53, ts53, e1, e2]
  refine done_q hdom kn ?_ ?_; · rfl
  rw [descG, if_pos ⟨hg, by omega, by omega⟩]; rfl
theorem SlotR (a b c i : Int) (g : AMem) (n : Nat) : FnC Try.prog 35 [gv a b c, .int .i64 i] g n (fun _ => False) (.int .i64 (slotG a b c i)) g n := by
  refine fnC_of_rwp t35 hm rfl fun hdom => ?_
  have kn := (Kept.refl hdom).new (.row [.int .i64 a, .int .i64 b, .int .i64 c] true)
  simp (maxSteps := 1000000) (disch := first | assumption | omega | rfl | decide) [↓rules, rules, lit_u64, aEval_U, splice_nil, splice_zero, splice_step, gset_gset, Int.ofNat_inj, U_junk, U_cells, U_cellOk, ub_and, ub_or, ub_xor, ub_andNot, ub_add, ub_sub, ub_mul, ub_shl, ub_shr, ub_shl', ub_shr', ub_eql, ub_neq, ub_lss, ub_leq, ub_gtr, ub_geq, rc35, tf53_0, tf53_1, tf53_2, ta3, ts3, ta53, ts53]
  refine rcall_quiet rfl (GoodR _ _ _ _ _) ?_
  cases hg : goodG a b c
  · simp (maxSteps := 1000000) (disch := first | assumption | omega | rfl | decide) [↓rules, rules, lit_u64, aEval_U, splice_nil, splice_zero, splice_step, gset_gset, Int.ofNat_inj, U_junk, U_cells, U_cellOk, ub_and, ub_or, ub_xor, ub_andNot, ub_add, ub_sub, ub_mul, ub_shl, ub_shr, ub_shl', ub_shr', ub_eql, ub_neq, ub_lss, ub_leq, ub_gtr, ub_geq]
    refine done_q hdom kn ?_ ?_; · rfl
    rw [slotG, if_neg (fun h => by rw [hg] at h; cases h.1)]; rfl
  have ok := goodG_iff.1 hg
  by_cases c1 : i < 0
  · simp (maxSteps := 1000000) (disch := first | assumption | omega | rfl | decide) [↓rules, rules, lit_u64, aEval_U, splice_nil, splice_zero, splice_step, gset_gset, Int.ofNat_inj, U_junk, U_cells, U_cellOk, ub_and, ub_or, ub_xor, ub_andNot, ub_add, ub_sub, ub_mul, ub_shl, ub_shr, ub_shl', ub_shr', ub_eql, ub_neq, ub_lss, ub_leq, ub_gtr, ub_geq, c1]
    refine done_q hdom kn ?_ ?_; · rfl
    rw [slotG, if_neg (by omega)]; rfl
  by_cases c2 : b ≤ i
  · simp (maxSteps := 1000000) (disch := first | assumption | omega | rfl | decide) [↓rules, rules, lit_u64, aEval_U, splice_nil, splice_zero, splice_step, gset_gset, Int.ofNat_inj, U_junk, U_cells, U_cellOk, ub_and, ub_or, ub_xor, ub_andNot, ub_add, ub_sub, ub_mul, ub_shl, ub_shr, ub_shl', ub_shr', ub_eql, ub_neq, ub_lss, ub_leq, ub_gtr, ub_geq, c1, c2, tf53_0, tf53_1, tf53_2, ta3, ts3, ta53, ts53]
    refine done_q hdom kn ?_ ?_; · rfl
    rw [slotG, if_neg (by omega)]; rfl
  have e1 : IntKind.i64.wrap (2 * i) = 2 * i := wrap_i64 (by omega) (by omega)
  have e2 : IntKind.i64.wrap (16 + a * 1208 + 2 * i) = 16 + a * 1208 + 2 * i := wrap_i64 (by omega) (by omega)
  simp (maxSteps := 1000000) (disch := first | assumption | omega | rfl | decide) [↓rules, rules, lit_u64, aEval_U, splice_nil, splice_zero, splice_step, gset_gset, Int.ofNat_inj, U_junk, U_cells, U_cellOk, ub_and, ub_or, ub_xor, ub_andNot, ub_add, ub_sub, ub_mul, ub_shl, ub_shr, ub_shl', ub_shr', ub_eql, ub_neq, ub_lss, ub_leq, ub_gtr, ub_geq, c1, c2, tf53_0, tf53_1, tf53_2, ta3, ts3, ta53, ts53, e1, e2]
  refine rcall_quiet rfl (slotsR a b c (by omega) _ _) ?_
  simp (maxSteps := 1000000) (disch := first | assumption | omega | rfl | decide) [↓rules, rules, lit_u64, aEval_U, splice_nil, splice_zero, splice_step, gset_gset, Int.ofNat_inj, U_junk, U_cells, U_cellOk, ub_and, ub_or, ub_xor, ub_andNot, ub_add, ub_sub, ub_mul, ub_shl, ub_shr, ub_shl', ub_shr', ub_eql, ub_neq, ub_lss, ub_leq, ub_gtr, ub_geq, tf53_0, tf53_1, tf53_2, ta3, ts3, ta53, ts53, e1, e2]
  refine done_q hdom kn ?_ ?_; · rfl
  rw [slotG, if_pos ⟨hg, by omega, by omega⟩]; rfl
theorem ThingR (a b c i : Int) (g : AMem) (n : Nat) : FnC Try.prog 36 [gv a b c, .int .i64 i] g n (fun _ => False) (.int .i64 (thingG a b c i)) g n := by
  refine fnC_of_rwp t36 hm rfl fun hdom => ?_
  have kn := (Kept.refl hdom).new (.row [.int .i64 a, .int .i64 b, .int .i64 c] true)
  simp (maxSteps := 1000000) (disch := first | assumption | omega | rfl | decide) [↓rules, rules, lit_u64, aEval_U, splice_nil, splice_zero, splice_step, gset_gset, Int.ofNat_inj, U_junk, U_cells, U_cellOk, ub_and, ub_or, ub_xor, ub_andNot, ub_add, ub_sub, ub_mul, ub_shl, ub_shr, ub_shl', ub_shr', ub_eql, ub_neq, ub_lss, ub_leq, ub_gtr, ub_geq, rc36, tf53_0, tf53_1, tf53_2, ta3, ts3, ta53, ts53]
  refine rcall_quiet rfl (GoodR _ _ _ _ _) ?_
  cases hg : goodG a b c
  · simp (maxSteps := 1000000) (disch := first | assumption | omega | rfl | decide) [↓rules, rules, lit_u64, aEval_U, splice_nil, splice_zero, splice_step, gset_gset, Int.ofNat_inj, U_junk, U_cells, U_cellOk, ub_and, ub_or, ub_xor, ub_andNot, ub_add, ub_sub, ub_mul, ub_shl, ub_shr, ub_shl', ub_shr', ub_eql, ub_neq, ub_lss, ub_leq, ub_gtr, ub_geq]
    refine done_q hdom kn ?_ ?_; · rfl
    rw [thingG, if_neg (fun h => by rw [hg] at h; cases h.1)]; rfl
  have ok := goodG_iff.1 hg
  by_cases c1 : i < 0
  · simp (maxSteps := 1000000) (disch := first | assumption | omega | rfl | decide) [↓rules, rules, lit_u64, aEval_U, splice_nil, splice_zero, splice_step, gset_gset, Int.ofNat_inj, U_junk, U_cells, U_cellOk, ub_and, ub_or, ub_xor, ub_andNot, ub_add, ub_sub, ub_mul, ub_shl, ub_shr, ub_shl', ub_shr', ub_eql, ub_neq, ub_lss, ub_leq, ub_gtr, ub_geq, c1]
    refine done_q hdom kn ?_ ?_; · rfl
    rw [thingG, if_neg (by omega)]; rfl
  by_cases c2 : c ≤ i
  · simp (maxSteps := 1000000) (disch := first | assumption | omega | rfl | decide) [↓rules, rules, lit_u64, aEval_U, splice_nil, splice_zero, splice_step, gset_gset, Int.ofNat_inj, U_junk, U_cells, U_cellOk, ub_and, ub_or, ub_xor, ub_andNot, ub_add, ub_sub, ub_mul, ub_shl, ub_shr, ub_shl', ub_shr', ub_eql, ub_neq, ub_lss, ub_leq, ub_gtr, ub_geq, c1, c2, tf53_0, tf53_1, tf53_2, ta3, ts3, ta53, ts53]
    refine done_q hdom kn ?_ ?_; · rfl
    rw [thingG, if_neg (by omega)]; rfl
  have e1 : IntKind.i64.wrap (8 * i) = 8 * i := wrap_i64 (by omega) (by omega)
  have e2 : IntKind.i64.wrap (16 + a * 1208 + 2 * b + 8 * i) = 16 + a * 1208 + 2 * b + 8 * i := wrap_i64 (by omega) (by omega)
  have e3 : IntKind.i64.wrap (2 * b) = 2 * b := wrap_i64 (by omega) (by omega)
  have e4 : IntKind.i64.wrap (16 + a * 1208 + 2 * b) = 16 + a * 1208 + 2 * b := wrap_i64 (by omega) (by omega)
  simp (maxSteps := 1000000) (disch := first | assumption | omega | rfl | decide) [↓rules, rules, lit_u64, aEval_U, splice_nil, splice_zero, splice_step, gset_gset, Int.ofNat_inj, U_junk, U_cells, U_cellOk, ub_and, ub_or, ub_xor, ub_andNot, ub_add, ub_sub, ub_mul, ub_shl, ub_shr, ub_shl', ub_shr', ub_eql, ub_neq, ub_lss, ub_leq, ub_gtr, ub_geq, c1, c2, tf53_0, tf53_1, tf53_2, ta3, ts3, ta53, ts53, e1, e2, e3, e4]
  refine rcall_quiet rfl (slotsR a b c (by omega) _ _) ?_
  simp (maxSteps := 1000000) (disch := first | assumption | omega | rfl | decide) [↓rules, rules, lit_u64, aEval_U, splice_nil, splice_zero, splice_step, gset_gset, Int.ofNat_inj, U_junk, U_cells, U_cellOk, ub_and, ub_or, ub_xor, ub_andNot, ub_add, ub_sub, ub_mul, ub_shl, ub_shr, ub_shl', ub_shr', ub_eql, ub_neq, ub_lss, ub_leq, ub_gtr, ub_geq, tf53_0, tf53_1, tf53_2, ta3, ts3, ta53, ts53, e1, e2, e3, e4]
  refine done_q hdom kn ?_ ?_; · rfl
  rw [thingG, if_pos ⟨hg, by omega, by omega⟩]; rfl
end Go.Proofs.Ythigpfognkmegaa.F

namespace Go.Proofs.Ythigpfognkmegaa.F
open Go Go.Proofs Go.Proofs.YthigpfognkmegaaAbs
theorem bin_eqb {P : Program} {t : TypeId} {xo yo : Operand} {a b : Bool} (hu : P.underlying t = some .bool) : aBin P .eql t xo yo (.bool a) (.bool b) = some (.bool (a == b)) := aBin_pure rfl rfl rfl (by
  have e : Op.equal t (.bool a) (.bool b) = Op.equalIn (9999 + 1) t (.bool a) (.bool b) := rfl
  show Sem.pureRun P (do pure (Value.bool (← Op.equal t (.bool a) (.bool b)))) = _
  rw [e]
  unfold Op.equalIn
  simp only [bind_assoc, pureRun_underlying hu, pure_bind]
  simp [Sem.pureRun_pure]) rfl
theorem bin_neb {P : Program} {t : TypeId} {xo yo : Operand} {a b : Bool} (hu : P.underlying t = some .bool) : aBin P .neq t xo yo (.bool a) (.bool b) = some (.bool (!(a == b))) := aBin_pure rfl rfl rfl (by
  have e : Op.equal t (.bool a) (.bool b) = Op.equalIn (9999 + 1) t (.bool a) (.bool b) := rfl
  show Sem.pureRun P (do pure (Value.bool (!(← Op.equal t (.bool a) (.bool b))))) = _
  rw [e]
  unfold Op.equalIn
  simp only [bind_assoc, pureRun_underlying hu, pure_bind]
  simp [Sem.pureRun_pure]) rfl
theorem geoOf (a b c : Int) (g : AMem) (n : Nat) : FnC Try.prog 31 [gv a b c] g n (fun _ => False) (gv a b c) g n := by
  refine fnC_of_rwp t31 hm rfl fun hdom => ?_
  have kn := ((Kept.refl hdom).new (.row [.int .i64 a, .int .i64 b, .int .i64 c] true)).new (.row [.int .i64 a, .int .i64 b, .int .i64 c] true)
  simp (maxSteps := 1000000) (disch := first | assumption | omega | rfl | decide) [↓rules, rules, lit_u64, aEval_U, splice_nil, splice_zero, splice_step, gset_gset, Int.ofNat_inj, U_junk, U_cells, U_cellOk, ub_and, ub_or, ub_xor, ub_andNot, ub_add, ub_sub, ub_mul, ub_shl, ub_shr, ub_shl', ub_shr', ub_eql, ub_neq, ub_lss, ub_leq, ub_gtr, ub_geq, fillS_nil, fillS_cons, fillP_nil, fillP_cons, fillO_some, nthP_cons, zeroRow_one, aRead_at, aRead_nil, readR_row, appR_nil, appR_row, appR1_row, appR_zero, grow_row, rc31, tf45_0, tf45_1, tf45_2, ta3, ts3, ta45, ts45, tz53, ts53, do_buildS tz53 tp53]
  refine done_q hdom kn ?_ ?_
  · rfl
  · simp [aResults, aRes, regs, aLoad_eq, gset, ta53, ts53, aLoadR_agg, look_cons]
theorem awake5_run : xfn Try.prog tab 100 20 21 [] (fun _ => none) 0 = some ⟨.bool true, fun _ => none, 0, 0, true⟩ := by kernel_rfl
theorem awake5 (g : AMem) (n : Nat) : FnC Try.prog 21 [] g n (fun _ => False) (.bool true) g n :=
  FnC.closed (xfn_ok hm tabOk 100 20 _ _ _ _ _ awake5_run).2.1 rfl rfl g n
theorem GeoSays (a b c i : Int) (g : AMem) (n : Nat) (_ : ∀ i, g i ≠ none → i < n) (_ : -9223372036854775808 ≤ i) (_ : i ≤ 9223372036854775807) : FnC Try.prog 7 [gv a b c, .int .i64 i] g n (fun _ => False) (.bool true) g n := by
  refine fnC_of_rwp t7 hm rfl fun hdom => ?_
  have kn := ((Kept.refl hdom).new (.row [.int .i64 a, .int .i64 b, .int .i64 c] true)).new (.row [.int .i64 a, .int .i64 b, .int .i64 c] true)
  simp (maxSteps := 1000000) (disch := first | assumption | omega | rfl | decide) [↓rules, rules, lit_u64, aEval_U, splice_nil, splice_zero, splice_step, gset_gset, Int.ofNat_inj, U_junk, U_cells, U_cellOk, ub_and, ub_or, ub_xor, ub_andNot, ub_add, ub_sub, ub_mul, ub_shl, ub_shr, ub_shl', ub_shr', ub_eql, ub_neq, ub_lss, ub_leq, ub_gtr, ub_geq, rc7, tf45_0, tf45_1, tf45_2, ta3, ts3, ta45, ts45]
  refine rcall_quiet rfl (awake5 _ _) ?_
  simp (maxSteps := 1000000) (disch := first | assumption | omega | rfl | decide) [↓rules, rules, lit_u64, aEval_U, splice_nil, splice_zero, splice_step, gset_gset, Int.ofNat_inj, U_junk, U_cells, U_cellOk, ub_and, ub_or, ub_xor, ub_andNot, ub_add, ub_sub, ub_mul, ub_shl, ub_shr, ub_shl', ub_shr', ub_eql, ub_neq, ub_lss, ub_leq, ub_gtr, ub_geq, ta45, ts45]
  refine rcall_quiet rfl (geoOf _ _ _ _ _) ?_
  simp (maxSteps := 1000000) (disch := first | assumption | omega | rfl | decide) [↓rules, rules, lit_u64, aEval_U, splice_nil, splice_zero, splice_step, gset_gset, Int.ofNat_inj, U_junk, U_cells, U_cellOk, ub_and, ub_or, ub_xor, ub_andNot, ub_add, ub_sub, ub_mul, ub_shl, ub_shr, ub_shl', ub_shr', ub_eql, ub_neq, ub_lss, ub_leq, ub_gtr, ub_geq, tz53, ts53, ta53, ta45, ts45]
  refine rcall_quiet rfl (DescG _ _ _ _ _ _) ?_
  simp (maxSteps := 1000000) (disch := first | assumption | omega | rfl | decide) [↓rules, rules, lit_u64, aEval_U, splice_nil, splice_zero, splice_step, gset_gset, Int.ofNat_inj, U_junk, U_cells, U_cellOk, ub_and, ub_or, ub_xor, ub_andNot, ub_add, ub_sub, ub_mul, ub_shl, ub_shr, ub_shl', ub_shr', ub_eql, ub_neq, ub_lss, ub_leq, ub_gtr, ub_geq, ts53, ta53, ta45, ts45]
  refine rcall_quiet rfl (DescR _ _ _ _ _ _) ?_
  simp (maxSteps := 1000000) (disch := first | assumption | omega | rfl | decide) [↓rules, rules, lit_u64, aEval_U, splice_nil, splice_zero, splice_step, gset_gset, Int.ofNat_inj, U_junk, U_cells, U_cellOk, ub_and, ub_or, ub_xor, ub_andNot, ub_add, ub_sub, ub_mul, ub_shl, ub_shr, ub_shl', ub_shr', ub_eql, ub_neq, ub_lss, ub_leq, ub_gtr, ub_geq, ts53, ta53, ta45, ts45]
  refine rcall_quiet rfl (GoodR _ _ _ _ _) ?_
  simp (maxSteps := 1000000) (disch := first | assumption | omega | rfl | decide) [↓rules, rules, lit_u64, aEval_U, splice_nil, splice_zero, splice_step, gset_gset, Int.ofNat_inj, U_junk, U_cells, U_cellOk, ub_and, ub_or, ub_xor, ub_andNot, ub_add, ub_sub, ub_mul, ub_shl, ub_shr, ub_shl', ub_shr', ub_eql, ub_neq, ub_lss, ub_leq, ub_gtr, ub_geq, ts53, ta53, ta45, ts45]
  cases hg : goodG a b c
  · have hl : lockG a b c = 0 := by rw [lockG, hg]; rfl
    have hr : rootG a b c i = 0 := by rw [rootG, if_neg (fun h => by rw [hg] at h; cases h.1)]
    simp (maxSteps := 1000000) (disch := first | assumption | omega | rfl | decide) [↓rules, rules, lit_u64, aEval_U, splice_nil, splice_zero, splice_step, gset_gset, Int.ofNat_inj, U_junk, U_cells, U_cellOk, ub_and, ub_or, ub_xor, ub_andNot, ub_add, ub_sub, ub_mul, ub_shl, ub_shr, ub_shl', ub_shr', ub_eql, ub_neq, ub_lss, ub_leq, ub_gtr, ub_geq, ta45, ts45]
    refine rcall_quiet rfl (GoodG _ _ _ _ _) ?_
    simp (maxSteps := 1000000) (disch := first | assumption | omega | rfl | decide) [↓rules, rules, lit_u64, aEval_U, splice_nil, splice_zero, splice_step, gset_gset, Int.ofNat_inj, U_junk, U_cells, U_cellOk, ub_and, ub_or, ub_xor, ub_andNot, ub_add, ub_sub, ub_mul, ub_shl, ub_shr, ub_shl', ub_shr', ub_eql, ub_neq, ub_lss, ub_leq, ub_gtr, ub_geq, hg, bin_eqb tu4, ta53, ts53, ta45, ts45]
    refine rcall_quiet rfl (RowsG _ _ _  _ _) ?_
    simp (maxSteps := 1000000) (disch := first | assumption | omega | rfl | decide) [↓rules, rules, lit_u64, aEval_U, splice_nil, splice_zero, splice_step, gset_gset, Int.ofNat_inj, U_junk, U_cells, U_cellOk, ub_and, ub_or, ub_xor, ub_andNot, ub_add, ub_sub, ub_mul, ub_shl, ub_shr, ub_shl', ub_shr', ub_eql, ub_neq, ub_lss, ub_leq, ub_gtr, ub_geq, hg, bin_eqb tu4, ta53, ts53, ta45, ts45]
    refine rcall_quiet rfl (RowsR _ _ _  _ _) ?_
    simp (maxSteps := 1000000) (disch := first | assumption | omega | rfl | decide) [↓rules, rules, lit_u64, aEval_U, splice_nil, splice_zero, splice_step, gset_gset, Int.ofNat_inj, U_junk, U_cells, U_cellOk, ub_and, ub_or, ub_xor, ub_andNot, ub_add, ub_sub, ub_mul, ub_shl, ub_shr, ub_shl', ub_shr', ub_eql, ub_neq, ub_lss, ub_leq, ub_gtr, ub_geq, hg, bin_eqb tu4, ta53, ts53, ta45, ts45]
    refine rcall_quiet rfl (SlotG _ _ _ _  _ _) ?_
    simp (maxSteps := 1000000) (disch := first | assumption | omega | rfl | decide) [↓rules, rules, lit_u64, aEval_U, splice_nil, splice_zero, splice_step, gset_gset, Int.ofNat_inj, U_junk, U_cells, U_cellOk, ub_and, ub_or, ub_xor, ub_andNot, ub_add, ub_sub, ub_mul, ub_shl, ub_shr, ub_shl', ub_shr', ub_eql, ub_neq, ub_lss, ub_leq, ub_gtr, ub_geq, hg, bin_eqb tu4, ta53, ts53, ta45, ts45]
    refine rcall_quiet rfl (SlotR _ _ _ _  _ _) ?_
    simp (maxSteps := 1000000) (disch := first | assumption | omega | rfl | decide) [↓rules, rules, lit_u64, aEval_U, splice_nil, splice_zero, splice_step, gset_gset, Int.ofNat_inj, U_junk, U_cells, U_cellOk, ub_and, ub_or, ub_xor, ub_andNot, ub_add, ub_sub, ub_mul, ub_shl, ub_shr, ub_shl', ub_shr', ub_eql, ub_neq, ub_lss, ub_leq, ub_gtr, ub_geq, hg, bin_eqb tu4, ta53, ts53, ta45, ts45]
    refine rcall_quiet rfl (ThingG _ _ _ _  _ _) ?_
    simp (maxSteps := 1000000) (disch := first | assumption | omega | rfl | decide) [↓rules, rules, lit_u64, aEval_U, splice_nil, splice_zero, splice_step, gset_gset, Int.ofNat_inj, U_junk, U_cells, U_cellOk, ub_and, ub_or, ub_xor, ub_andNot, ub_add, ub_sub, ub_mul, ub_shl, ub_shr, ub_shl', ub_shr', ub_eql, ub_neq, ub_lss, ub_leq, ub_gtr, ub_geq, hg, bin_eqb tu4, ta53, ts53, ta45, ts45]
    refine rcall_quiet rfl (ThingR _ _ _ _  _ _) ?_
    simp (maxSteps := 1000000) (disch := first | assumption | omega | rfl | decide) [↓rules, rules, lit_u64, aEval_U, splice_nil, splice_zero, splice_step, gset_gset, Int.ofNat_inj, U_junk, U_cells, U_cellOk, ub_and, ub_or, ub_xor, ub_andNot, ub_add, ub_sub, ub_mul, ub_shl, ub_shr, ub_shl', ub_shr', ub_eql, ub_neq, ub_lss, ub_leq, ub_gtr, ub_geq, hg, bin_eqb tu4, ta53, ts53, ta45, ts45]
    refine rcall_quiet rfl (CopyG _ _ _  _ _) ?_
    simp (maxSteps := 1000000) (disch := first | assumption | omega | rfl | decide) [↓rules, rules, lit_u64, aEval_U, splice_nil, splice_zero, splice_step, gset_gset, Int.ofNat_inj, U_junk, U_cells, U_cellOk, ub_and, ub_or, ub_xor, ub_andNot, ub_add, ub_sub, ub_mul, ub_shl, ub_shr, ub_shl', ub_shr', ub_eql, ub_neq, ub_lss, ub_leq, ub_gtr, ub_geq, hg, bin_eqb tu4, ta53, ts53, ta45, ts45]
    refine rcall_quiet rfl (CopyR _ _ _  _ _) ?_
    simp (maxSteps := 1000000) (disch := first | assumption | omega | rfl | decide) [↓rules, rules, lit_u64, aEval_U, splice_nil, splice_zero, splice_step, gset_gset, Int.ofNat_inj, U_junk, U_cells, U_cellOk, ub_and, ub_or, ub_xor, ub_andNot, ub_add, ub_sub, ub_mul, ub_shl, ub_shr, ub_shl', ub_shr', ub_eql, ub_neq, ub_lss, ub_leq, ub_gtr, ub_geq, hg, bin_eqb tu4, ta53, ts53, ta45, ts45]
    refine rcall_quiet rfl (LockG _ _ _ _ _) ?_
    rw [hl]
    simp (maxSteps := 1000000) (disch := first | assumption | omega | rfl | decide) [↓rules, rules, lit_u64, aEval_U, splice_nil, splice_zero, splice_step, gset_gset, Int.ofNat_inj, U_junk, U_cells, U_cellOk, ub_and, ub_or, ub_xor, ub_andNot, ub_add, ub_sub, ub_mul, ub_shl, ub_shr, ub_shl', ub_shr', ub_eql, ub_neq, ub_lss, ub_leq, ub_gtr, ub_geq, hg, bin_eqb tu4, ta53, ts53, ta45, ts45]
    refine rcall_quiet rfl (RootG _ _ _ _ _ _) ?_
    rw [hr]
    simp (maxSteps := 1000000) (disch := first | assumption | omega | rfl | decide) [↓rules, rules, lit_u64, aEval_U, splice_nil, splice_zero, splice_step, gset_gset, Int.ofNat_inj, U_junk, U_cells, U_cellOk, ub_and, ub_or, ub_xor, ub_andNot, ub_add, ub_sub, ub_mul, ub_shl, ub_shr, ub_shl', ub_shr', ub_eql, ub_neq, ub_lss, ub_leq, ub_gtr, ub_geq, hg, bin_eqb tu4, ta53, ts53, ta45, ts45]
    refine done_q hdom kn ?_ ?_ <;> rfl
  have hl : lockG a b c = 8 := by rw [lockG, if_pos hg]
  have ok := goodG_iff.1 hg
  by_cases c1 : 0 ≤ i
  case neg =>
    have hr : rootG a b c i = 0 := by rw [rootG, if_neg (by omega)]
    simp (maxSteps := 1000000) (disch := first | assumption | omega | rfl | decide) [↓rules, rules, lit_u64, aEval_U, splice_nil, splice_zero, splice_step, gset_gset, Int.ofNat_inj, U_junk, U_cells, U_cellOk, ub_and, ub_or, ub_xor, ub_andNot, ub_add, ub_sub, ub_mul, ub_shl, ub_shr, ub_shl', ub_shr', ub_eql, ub_neq, ub_lss, ub_leq, ub_gtr, ub_geq, c1, ta45, ts45]
    refine rcall_quiet rfl (GoodG _ _ _ _ _) ?_
    simp (maxSteps := 1000000) (disch := first | assumption | omega | rfl | decide) [↓rules, rules, lit_u64, aEval_U, splice_nil, splice_zero, splice_step, gset_gset, Int.ofNat_inj, U_junk, U_cells, U_cellOk, ub_and, ub_or, ub_xor, ub_andNot, ub_add, ub_sub, ub_mul, ub_shl, ub_shr, ub_shl', ub_shr', ub_eql, ub_neq, ub_lss, ub_leq, ub_gtr, ub_geq, hg, bin_eqb tu4, ta53, ts53, ta45, ts45]
    refine rcall_quiet rfl (RowsG _ _ _  _ _) ?_
    simp (maxSteps := 1000000) (disch := first | assumption | omega | rfl | decide) [↓rules, rules, lit_u64, aEval_U, splice_nil, splice_zero, splice_step, gset_gset, Int.ofNat_inj, U_junk, U_cells, U_cellOk, ub_and, ub_or, ub_xor, ub_andNot, ub_add, ub_sub, ub_mul, ub_shl, ub_shr, ub_shl', ub_shr', ub_eql, ub_neq, ub_lss, ub_leq, ub_gtr, ub_geq, hg, bin_eqb tu4, ta53, ts53, ta45, ts45]
    refine rcall_quiet rfl (RowsR _ _ _  _ _) ?_
    simp (maxSteps := 1000000) (disch := first | assumption | omega | rfl | decide) [↓rules, rules, lit_u64, aEval_U, splice_nil, splice_zero, splice_step, gset_gset, Int.ofNat_inj, U_junk, U_cells, U_cellOk, ub_and, ub_or, ub_xor, ub_andNot, ub_add, ub_sub, ub_mul, ub_shl, ub_shr, ub_shl', ub_shr', ub_eql, ub_neq, ub_lss, ub_leq, ub_gtr, ub_geq, hg, bin_eqb tu4, ta53, ts53, ta45, ts45]
    refine rcall_quiet rfl (SlotG _ _ _ _  _ _) ?_
    simp (maxSteps := 1000000) (disch := first | assumption | omega | rfl | decide) [↓rules, rules, lit_u64, aEval_U, splice_nil, splice_zero, splice_step, gset_gset, Int.ofNat_inj, U_junk, U_cells, U_cellOk, ub_and, ub_or, ub_xor, ub_andNot, ub_add, ub_sub, ub_mul, ub_shl, ub_shr, ub_shl', ub_shr', ub_eql, ub_neq, ub_lss, ub_leq, ub_gtr, ub_geq, hg, bin_eqb tu4, ta53, ts53, ta45, ts45]
    refine rcall_quiet rfl (SlotR _ _ _ _  _ _) ?_
    simp (maxSteps := 1000000) (disch := first | assumption | omega | rfl | decide) [↓rules, rules, lit_u64, aEval_U, splice_nil, splice_zero, splice_step, gset_gset, Int.ofNat_inj, U_junk, U_cells, U_cellOk, ub_and, ub_or, ub_xor, ub_andNot, ub_add, ub_sub, ub_mul, ub_shl, ub_shr, ub_shl', ub_shr', ub_eql, ub_neq, ub_lss, ub_leq, ub_gtr, ub_geq, hg, bin_eqb tu4, ta53, ts53, ta45, ts45]
    refine rcall_quiet rfl (ThingG _ _ _ _  _ _) ?_
    simp (maxSteps := 1000000) (disch := first | assumption | omega | rfl | decide) [↓rules, rules, lit_u64, aEval_U, splice_nil, splice_zero, splice_step, gset_gset, Int.ofNat_inj, U_junk, U_cells, U_cellOk, ub_and, ub_or, ub_xor, ub_andNot, ub_add, ub_sub, ub_mul, ub_shl, ub_shr, ub_shl', ub_shr', ub_eql, ub_neq, ub_lss, ub_leq, ub_gtr, ub_geq, hg, bin_eqb tu4, ta53, ts53, ta45, ts45]
    refine rcall_quiet rfl (ThingR _ _ _ _  _ _) ?_
    simp (maxSteps := 1000000) (disch := first | assumption | omega | rfl | decide) [↓rules, rules, lit_u64, aEval_U, splice_nil, splice_zero, splice_step, gset_gset, Int.ofNat_inj, U_junk, U_cells, U_cellOk, ub_and, ub_or, ub_xor, ub_andNot, ub_add, ub_sub, ub_mul, ub_shl, ub_shr, ub_shl', ub_shr', ub_eql, ub_neq, ub_lss, ub_leq, ub_gtr, ub_geq, hg, bin_eqb tu4, ta53, ts53, ta45, ts45]
    refine rcall_quiet rfl (CopyG _ _ _  _ _) ?_
    simp (maxSteps := 1000000) (disch := first | assumption | omega | rfl | decide) [↓rules, rules, lit_u64, aEval_U, splice_nil, splice_zero, splice_step, gset_gset, Int.ofNat_inj, U_junk, U_cells, U_cellOk, ub_and, ub_or, ub_xor, ub_andNot, ub_add, ub_sub, ub_mul, ub_shl, ub_shr, ub_shl', ub_shr', ub_eql, ub_neq, ub_lss, ub_leq, ub_gtr, ub_geq, hg, bin_eqb tu4, ta53, ts53, ta45, ts45]
    refine rcall_quiet rfl (CopyR _ _ _  _ _) ?_
    simp (maxSteps := 1000000) (disch := first | assumption | omega | rfl | decide) [↓rules, rules, lit_u64, aEval_U, splice_nil, splice_zero, splice_step, gset_gset, Int.ofNat_inj, U_junk, U_cells, U_cellOk, ub_and, ub_or, ub_xor, ub_andNot, ub_add, ub_sub, ub_mul, ub_shl, ub_shr, ub_shl', ub_shr', ub_eql, ub_neq, ub_lss, ub_leq, ub_gtr, ub_geq, hg, bin_eqb tu4, ta53, ts53, ta45, ts45]
    refine rcall_quiet rfl (LockG _ _ _ _ _) ?_
    rw [hl]
    simp (maxSteps := 1000000) (disch := first | assumption | omega | rfl | decide) [↓rules, rules, lit_u64, aEval_U, splice_nil, splice_zero, splice_step, gset_gset, Int.ofNat_inj, U_junk, U_cells, U_cellOk, ub_and, ub_or, ub_xor, ub_andNot, ub_add, ub_sub, ub_mul, ub_shl, ub_shr, ub_shl', ub_shr', ub_eql, ub_neq, ub_lss, ub_leq, ub_gtr, ub_geq, hg, bin_eqb tu4, ta53, ts53, ta45, ts45]
    refine rcall_quiet rfl (RootG _ _ _ _ _ _) ?_
    rw [hr]
    simp (maxSteps := 1000000) (disch := first | assumption | omega | rfl | decide) [↓rules, rules, lit_u64, aEval_U, splice_nil, splice_zero, splice_step, gset_gset, Int.ofNat_inj, U_junk, U_cells, U_cellOk, ub_and, ub_or, ub_xor, ub_andNot, ub_add, ub_sub, ub_mul, ub_shl, ub_shr, ub_shl', ub_shr', ub_eql, ub_neq, ub_lss, ub_leq, ub_gtr, ub_geq, hg, bin_eqb tu4, ta53, ts53, ta45, ts45]
    refine done_q hdom kn ?_ ?_ <;> rfl
  by_cases c2 : i < a
  case neg =>
    have hr : rootG a b c i = 0 := by rw [rootG, if_neg (by omega)]
    simp (maxSteps := 1000000) (disch := first | assumption | omega | rfl | decide) [↓rules, rules, lit_u64, aEval_U, splice_nil, splice_zero, splice_step, gset_gset, Int.ofNat_inj, U_junk, U_cells, U_cellOk, ub_and, ub_or, ub_xor, ub_andNot, ub_add, ub_sub, ub_mul, ub_shl, ub_shr, ub_shl', ub_shr', ub_eql, ub_neq, ub_lss, ub_leq, ub_gtr, ub_geq, c1, c2, tf45_0, ta3, ts3, ta45, ts45]
    refine rcall_quiet rfl (GoodG _ _ _ _ _) ?_
    simp (maxSteps := 1000000) (disch := first | assumption | omega | rfl | decide) [↓rules, rules, lit_u64, aEval_U, splice_nil, splice_zero, splice_step, gset_gset, Int.ofNat_inj, U_junk, U_cells, U_cellOk, ub_and, ub_or, ub_xor, ub_andNot, ub_add, ub_sub, ub_mul, ub_shl, ub_shr, ub_shl', ub_shr', ub_eql, ub_neq, ub_lss, ub_leq, ub_gtr, ub_geq, hg, bin_eqb tu4, ta53, ts53, ta45, ts45]
    refine rcall_quiet rfl (RowsG _ _ _  _ _) ?_
    simp (maxSteps := 1000000) (disch := first | assumption | omega | rfl | decide) [↓rules, rules, lit_u64, aEval_U, splice_nil, splice_zero, splice_step, gset_gset, Int.ofNat_inj, U_junk, U_cells, U_cellOk, ub_and, ub_or, ub_xor, ub_andNot, ub_add, ub_sub, ub_mul, ub_shl, ub_shr, ub_shl', ub_shr', ub_eql, ub_neq, ub_lss, ub_leq, ub_gtr, ub_geq, hg, bin_eqb tu4, ta53, ts53, ta45, ts45]
    refine rcall_quiet rfl (RowsR _ _ _  _ _) ?_
    simp (maxSteps := 1000000) (disch := first | assumption | omega | rfl | decide) [↓rules, rules, lit_u64, aEval_U, splice_nil, splice_zero, splice_step, gset_gset, Int.ofNat_inj, U_junk, U_cells, U_cellOk, ub_and, ub_or, ub_xor, ub_andNot, ub_add, ub_sub, ub_mul, ub_shl, ub_shr, ub_shl', ub_shr', ub_eql, ub_neq, ub_lss, ub_leq, ub_gtr, ub_geq, hg, bin_eqb tu4, ta53, ts53, ta45, ts45]
    refine rcall_quiet rfl (SlotG _ _ _ _  _ _) ?_
    simp (maxSteps := 1000000) (disch := first | assumption | omega | rfl | decide) [↓rules, rules, lit_u64, aEval_U, splice_nil, splice_zero, splice_step, gset_gset, Int.ofNat_inj, U_junk, U_cells, U_cellOk, ub_and, ub_or, ub_xor, ub_andNot, ub_add, ub_sub, ub_mul, ub_shl, ub_shr, ub_shl', ub_shr', ub_eql, ub_neq, ub_lss, ub_leq, ub_gtr, ub_geq, hg, bin_eqb tu4, ta53, ts53, ta45, ts45]
    refine rcall_quiet rfl (SlotR _ _ _ _  _ _) ?_
    simp (maxSteps := 1000000) (disch := first | assumption | omega | rfl | decide) [↓rules, rules, lit_u64, aEval_U, splice_nil, splice_zero, splice_step, gset_gset, Int.ofNat_inj, U_junk, U_cells, U_cellOk, ub_and, ub_or, ub_xor, ub_andNot, ub_add, ub_sub, ub_mul, ub_shl, ub_shr, ub_shl', ub_shr', ub_eql, ub_neq, ub_lss, ub_leq, ub_gtr, ub_geq, hg, bin_eqb tu4, ta53, ts53, ta45, ts45]
    refine rcall_quiet rfl (ThingG _ _ _ _  _ _) ?_
    simp (maxSteps := 1000000) (disch := first | assumption | omega | rfl | decide) [↓rules, rules, lit_u64, aEval_U, splice_nil, splice_zero, splice_step, gset_gset, Int.ofNat_inj, U_junk, U_cells, U_cellOk, ub_and, ub_or, ub_xor, ub_andNot, ub_add, ub_sub, ub_mul, ub_shl, ub_shr, ub_shl', ub_shr', ub_eql, ub_neq, ub_lss, ub_leq, ub_gtr, ub_geq, hg, bin_eqb tu4, ta53, ts53, ta45, ts45]
    refine rcall_quiet rfl (ThingR _ _ _ _  _ _) ?_
    simp (maxSteps := 1000000) (disch := first | assumption | omega | rfl | decide) [↓rules, rules, lit_u64, aEval_U, splice_nil, splice_zero, splice_step, gset_gset, Int.ofNat_inj, U_junk, U_cells, U_cellOk, ub_and, ub_or, ub_xor, ub_andNot, ub_add, ub_sub, ub_mul, ub_shl, ub_shr, ub_shl', ub_shr', ub_eql, ub_neq, ub_lss, ub_leq, ub_gtr, ub_geq, hg, bin_eqb tu4, ta53, ts53, ta45, ts45]
    refine rcall_quiet rfl (CopyG _ _ _  _ _) ?_
    simp (maxSteps := 1000000) (disch := first | assumption | omega | rfl | decide) [↓rules, rules, lit_u64, aEval_U, splice_nil, splice_zero, splice_step, gset_gset, Int.ofNat_inj, U_junk, U_cells, U_cellOk, ub_and, ub_or, ub_xor, ub_andNot, ub_add, ub_sub, ub_mul, ub_shl, ub_shr, ub_shl', ub_shr', ub_eql, ub_neq, ub_lss, ub_leq, ub_gtr, ub_geq, hg, bin_eqb tu4, ta53, ts53, ta45, ts45]
    refine rcall_quiet rfl (CopyR _ _ _  _ _) ?_
    simp (maxSteps := 1000000) (disch := first | assumption | omega | rfl | decide) [↓rules, rules, lit_u64, aEval_U, splice_nil, splice_zero, splice_step, gset_gset, Int.ofNat_inj, U_junk, U_cells, U_cellOk, ub_and, ub_or, ub_xor, ub_andNot, ub_add, ub_sub, ub_mul, ub_shl, ub_shr, ub_shl', ub_shr', ub_eql, ub_neq, ub_lss, ub_leq, ub_gtr, ub_geq, hg, bin_eqb tu4, ta53, ts53, ta45, ts45]
    refine rcall_quiet rfl (LockG _ _ _ _ _) ?_
    rw [hl]
    simp (maxSteps := 1000000) (disch := first | assumption | omega | rfl | decide) [↓rules, rules, lit_u64, aEval_U, splice_nil, splice_zero, splice_step, gset_gset, Int.ofNat_inj, U_junk, U_cells, U_cellOk, ub_and, ub_or, ub_xor, ub_andNot, ub_add, ub_sub, ub_mul, ub_shl, ub_shr, ub_shl', ub_shr', ub_eql, ub_neq, ub_lss, ub_leq, ub_gtr, ub_geq, hg, bin_eqb tu4, ta53, ts53, ta45, ts45]
    refine rcall_quiet rfl (RootG _ _ _ _ _ _) ?_
    rw [hr]
    simp (maxSteps := 1000000) (disch := first | assumption | omega | rfl | decide) [↓rules, rules, lit_u64, aEval_U, splice_nil, splice_zero, splice_step, gset_gset, Int.ofNat_inj, U_junk, U_cells, U_cellOk, ub_and, ub_or, ub_xor, ub_andNot, ub_add, ub_sub, ub_mul, ub_shl, ub_shr, ub_shl', ub_shr', ub_eql, ub_neq, ub_lss, ub_leq, ub_gtr, ub_geq, hg, bin_eqb tu4, ta53, ts53, ta45, ts45]
    refine done_q hdom kn ?_ ?_ <;> rfl
  have hr : rootG a b c i = 8 * i := by rw [rootG, if_pos ⟨hg, c1, c2⟩]
  have e1 : IntKind.i64.wrap (8 * i) = 8 * i := wrap_i64 (by omega) (by omega)
  simp (maxSteps := 1000000) (disch := first | assumption | omega | rfl | decide) [↓rules, rules, lit_u64, aEval_U, splice_nil, splice_zero, splice_step, gset_gset, Int.ofNat_inj, U_junk, U_cells, U_cellOk, ub_and, ub_or, ub_xor, ub_andNot, ub_add, ub_sub, ub_mul, ub_shl, ub_shr, ub_shl', ub_shr', ub_eql, ub_neq, ub_lss, ub_leq, ub_gtr, ub_geq, c1, c2, tf45_0, ta3, ts3, ta45, ts45, e1]
  refine rcall_quiet rfl (GoodG _ _ _ _ _) ?_
  simp (maxSteps := 1000000) (disch := first | assumption | omega | rfl | decide) [↓rules, rules, lit_u64, aEval_U, splice_nil, splice_zero, splice_step, gset_gset, Int.ofNat_inj, U_junk, U_cells, U_cellOk, ub_and, ub_or, ub_xor, ub_andNot, ub_add, ub_sub, ub_mul, ub_shl, ub_shr, ub_shl', ub_shr', ub_eql, ub_neq, ub_lss, ub_leq, ub_gtr, ub_geq, hg, bin_eqb tu4, ta53, ts53, ta45, ts45]
  refine rcall_quiet rfl (RowsG _ _ _  _ _) ?_
  simp (maxSteps := 1000000) (disch := first | assumption | omega | rfl | decide) [↓rules, rules, lit_u64, aEval_U, splice_nil, splice_zero, splice_step, gset_gset, Int.ofNat_inj, U_junk, U_cells, U_cellOk, ub_and, ub_or, ub_xor, ub_andNot, ub_add, ub_sub, ub_mul, ub_shl, ub_shr, ub_shl', ub_shr', ub_eql, ub_neq, ub_lss, ub_leq, ub_gtr, ub_geq, hg, bin_eqb tu4, ta53, ts53, ta45, ts45]
  refine rcall_quiet rfl (RowsR _ _ _  _ _) ?_
  simp (maxSteps := 1000000) (disch := first | assumption | omega | rfl | decide) [↓rules, rules, lit_u64, aEval_U, splice_nil, splice_zero, splice_step, gset_gset, Int.ofNat_inj, U_junk, U_cells, U_cellOk, ub_and, ub_or, ub_xor, ub_andNot, ub_add, ub_sub, ub_mul, ub_shl, ub_shr, ub_shl', ub_shr', ub_eql, ub_neq, ub_lss, ub_leq, ub_gtr, ub_geq, hg, bin_eqb tu4, ta53, ts53, ta45, ts45]
  refine rcall_quiet rfl (SlotG _ _ _ _  _ _) ?_
  simp (maxSteps := 1000000) (disch := first | assumption | omega | rfl | decide) [↓rules, rules, lit_u64, aEval_U, splice_nil, splice_zero, splice_step, gset_gset, Int.ofNat_inj, U_junk, U_cells, U_cellOk, ub_and, ub_or, ub_xor, ub_andNot, ub_add, ub_sub, ub_mul, ub_shl, ub_shr, ub_shl', ub_shr', ub_eql, ub_neq, ub_lss, ub_leq, ub_gtr, ub_geq, hg, bin_eqb tu4, ta53, ts53, ta45, ts45]
  refine rcall_quiet rfl (SlotR _ _ _ _  _ _) ?_
  simp (maxSteps := 1000000) (disch := first | assumption | omega | rfl | decide) [↓rules, rules, lit_u64, aEval_U, splice_nil, splice_zero, splice_step, gset_gset, Int.ofNat_inj, U_junk, U_cells, U_cellOk, ub_and, ub_or, ub_xor, ub_andNot, ub_add, ub_sub, ub_mul, ub_shl, ub_shr, ub_shl', ub_shr', ub_eql, ub_neq, ub_lss, ub_leq, ub_gtr, ub_geq, hg, bin_eqb tu4, ta53, ts53, ta45, ts45]
  refine rcall_quiet rfl (ThingG _ _ _ _  _ _) ?_
  simp (maxSteps := 1000000) (disch := first | assumption | omega | rfl | decide) [↓rules, rules, lit_u64, aEval_U, splice_nil, splice_zero, splice_step, gset_gset, Int.ofNat_inj, U_junk, U_cells, U_cellOk, ub_and, ub_or, ub_xor, ub_andNot, ub_add, ub_sub, ub_mul, ub_shl, ub_shr, ub_shl', ub_shr', ub_eql, ub_neq, ub_lss, ub_leq, ub_gtr, ub_geq, hg, bin_eqb tu4, ta53, ts53, ta45, ts45]
  refine rcall_quiet rfl (ThingR _ _ _ _  _ _) ?_
  simp (maxSteps := 1000000) (disch := first | assumption | omega | rfl | decide) [↓rules, rules, lit_u64, aEval_U, splice_nil, splice_zero, splice_step, gset_gset, Int.ofNat_inj, U_junk, U_cells, U_cellOk, ub_and, ub_or, ub_xor, ub_andNot, ub_add, ub_sub, ub_mul, ub_shl, ub_shr, ub_shl', ub_shr', ub_eql, ub_neq, ub_lss, ub_leq, ub_gtr, ub_geq, hg, bin_eqb tu4, ta53, ts53, ta45, ts45]
  refine rcall_quiet rfl (CopyG _ _ _  _ _) ?_
  simp (maxSteps := 1000000) (disch := first | assumption | omega | rfl | decide) [↓rules, rules, lit_u64, aEval_U, splice_nil, splice_zero, splice_step, gset_gset, Int.ofNat_inj, U_junk, U_cells, U_cellOk, ub_and, ub_or, ub_xor, ub_andNot, ub_add, ub_sub, ub_mul, ub_shl, ub_shr, ub_shl', ub_shr', ub_eql, ub_neq, ub_lss, ub_leq, ub_gtr, ub_geq, hg, bin_eqb tu4, ta53, ts53, ta45, ts45]
  refine rcall_quiet rfl (CopyR _ _ _  _ _) ?_
  simp (maxSteps := 1000000) (disch := first | assumption | omega | rfl | decide) [↓rules, rules, lit_u64, aEval_U, splice_nil, splice_zero, splice_step, gset_gset, Int.ofNat_inj, U_junk, U_cells, U_cellOk, ub_and, ub_or, ub_xor, ub_andNot, ub_add, ub_sub, ub_mul, ub_shl, ub_shr, ub_shl', ub_shr', ub_eql, ub_neq, ub_lss, ub_leq, ub_gtr, ub_geq, hg, bin_eqb tu4, ta53, ts53, ta45, ts45]
  refine rcall_quiet rfl (LockG _ _ _ _ _) ?_
  rw [hl]
  simp (maxSteps := 1000000) (disch := first | assumption | omega | rfl | decide) [↓rules, rules, lit_u64, aEval_U, splice_nil, splice_zero, splice_step, gset_gset, Int.ofNat_inj, U_junk, U_cells, U_cellOk, ub_and, ub_or, ub_xor, ub_andNot, ub_add, ub_sub, ub_mul, ub_shl, ub_shr, ub_shl', ub_shr', ub_eql, ub_neq, ub_lss, ub_leq, ub_gtr, ub_geq, hg, bin_eqb tu4, ta53, ts53, ta45, ts45]
  refine rcall_quiet rfl (RootG _ _ _ _ _ _) ?_
  rw [hr]
  simp (maxSteps := 1000000) (disch := first | assumption | omega | rfl | decide) [↓rules, rules, lit_u64, aEval_U, splice_nil, splice_zero, splice_step, gset_gset, Int.ofNat_inj, U_junk, U_cells, U_cellOk, ub_and, ub_or, ub_xor, ub_andNot, ub_add, ub_sub, ub_mul, ub_shl, ub_shr, ub_shl', ub_shr', ub_eql, ub_neq, ub_lss, ub_leq, ub_gtr, ub_geq, hg, bin_eqb tu4, ta53, ts53, ta45, ts45]
  refine done_q hdom kn ?_ ?_ <;> rfl
def encG (x : Int × Int × Int) : List Value := [.int .i64 x.1, .int .i64 x.2.1, .int .i64 x.2.2]
theorem decG {H : Type} {enc : TypeId × Value → H} {W : World} : ∀ c, Cells enc Try.prog W [.flat (.int .i64), .flat (.int .i64), .flat (.int .i64)] c → ∃ x : Int × Int × Int, encG x = c ∧ True := fun c h => by
  obtain ⟨a, b, d, rfl, ha, hb, hd⟩ := h.flats3
  obtain ⟨x, rfl, h1, h2⟩ := LK.i64 ha
  obtain ⟨y, rfl, h3, h4⟩ := LK.i64 hb
  obtain ⟨z, rfl, h5, h6⟩ := LK.i64 hd
  exact ⟨(x, y, z), rfl, trivial⟩
theorem GeoSaysX (x : Int × Int × Int) (i : Int) (g : AMem) (n : Nat) (hd : ∀ i, g i ≠ none → i < n) (_ : True) (h1 : -9223372036854775808 ≤ i) (h2 : i ≤ 9223372036854775807) : FnC Try.prog 7 [.agg (encG x).toArray, .int .i64 i] g n (fun _ => False) (.bool true) g n :=
  GeoSays x.1 x.2.1 x.2.2 i g n hd h1 h2
end Go.Proofs.Ythigpfognkmegaa.F

namespace Go.Proofs.Ythigpfognkmegaa.F
open Go Go.Proofs Go.Proofs.YthigpfognkmegaaAbs
def rowB (N : Nat) (S : Nat → Bool) : List Value := (List.range N).map fun j => Value.bool (S j)
theorem rowB_length (N : Nat) (S : Nat → Bool) : (rowB N S).length = N := by simp [rowB]
theorem rowB_nth (N : Nat) (S : Nat → Bool) (j : Nat) (h : j < N) : nth (rowB N S) j = some (.bool (S j)) := by
  rw [← nth_eq, rowB, List.getElem?_map, List.getElem?_range h]; rfl
theorem rowB_congr {N : Nat} {S S' : Nat → Bool} (h : ∀ j, j < N → S j = S' j) : rowB N S = rowB N S' := by
  unfold rowB; apply List.map_congr_left; intro j hj; rw [h j (by simpa using hj)]
theorem rowB_set (N : Nat) (S : Nat → Bool) (j : Nat) (h : j < N) : splice (rowB N S) j [.bool true] = rowB N (fun k => S k || k == j) := by
  rw [splice_one _ _ _ (by rw [rowB_length]; exact h)]
  apply List.ext_getElem (by simp [rowB])
  intro i h1 h2
  rw [List.getElem_set]
  simp only [rowB, List.getElem_map, List.getElem_range]
  by_cases e : j = i
  · simp [e]
  · simp [e, show ¬ i = j from fun x => e x.symm]
theorem gset_self {g : AMem} {b : Nat} {o : Option AObj} (h : g b = o) : gset g b o = g := by
  funext j; unfold gset; split
  · rename_i e; rw [e, h]
  · rfl
/-- Taken from f on, up to p. -/
def mark (S : Nat → Bool) (f p : Nat) : Nat → Bool := fun k => S k || (decide (f ≤ k) && decide (k < p))
theorem mark_step (S : Nat → Bool) (f p : Nat) (h : f ≤ p) : (fun k => mark S f p k || k == p) = mark S f (p + 1) := by
  funext k
  simp only [mark]
  by_cases e : k = p
  · subst e; simp [h]
  · have : decide (k < p + 1) = decide (k < p) := by rw [decide_eq_decide]; omega
    rw [this]; simp [e]
theorem mark_none (S : Nat → Bool) (f : Nat) : mark S f f = S := by
  funext k
  simp only [mark]
  by_cases e : f ≤ k
  · simp [e, show ¬ k < f by omega]
  · simp [e]
theorem take (b N f m : Nat) (S : Nat → Bool) (g : AMem) (n : Nat) (hN : N ≤ 1000000) (hb : g b = some (.row (rowB N S) true)) (hfm : f + m ≤ N) (hS : ∀ j, f ≤ j → j < f + m → S j = false) :
    FnC Try.prog 38 [.slice (some ⟨b, 0, none⟩) N 1, .int .i64 f, .int .i64 m] g n (fun i => i = b) (.bool true) (gset g b (some (.row (rowB N (mark S f (f + m))) true))) n := by
  refine fnC_of_rwp t38 hm rfl fun hdom => ?_
  have e1 : IntKind.i64.wrap ((f : Int) + m) = (f : Int) + m := wrap_i64 (by omega) (by omega)
  have c1 : ¬ (f : Int) < 0 := by omega
  have c2 : ¬ (m : Int) < 0 := by omega
  have c3 : ¬ (N : Int) < (f : Int) + m := by omega
  simp (maxSteps := 1000000) (disch := first | assumption | omega | rfl | decide) [↓rules, rules, lit_u64, aEval_U, splice_nil, splice_zero, splice_step, gset_gset, Int.ofNat_inj, U_junk, U_cells, U_cellOk, ub_and, ub_or, ub_xor, ub_andNot, ub_add, ub_sub, ub_mul, ub_shl, ub_shr, ub_shl', ub_shr', ub_eql, ub_neq, ub_lss, ub_leq, ub_gtr, ub_geq, rc38, e1, c1, c2, c3, tu60]
  refine rwp_loop (fun k l g' n' => ∃ p, k = f + m - p ∧ f ≤ p ∧ p ≤ f + m ∧ g' = gset g b (some (.row (rowB N (mark S f p)) true)) ∧ n' = n ∧ l = [(0, .slice (some ⟨b, 0, none⟩) N 1), (1, .int .i64 f), (2, .int .i64 m), (7, .int .i64 p)]) ?_ (k := m) ?_
  · rintro k l g' n' ⟨p, rfl, hp, hi, rfl, rfl, rfl⟩
    simp (maxSteps := 1000000) (disch := first | assumption | omega | rfl | decide) [↓rules, rules, lit_u64, aEval_U, splice_nil, splice_zero, splice_step, gset_gset, Int.ofNat_inj, U_junk, U_cells, U_cellOk, ub_and, ub_or, ub_xor, ub_andNot, ub_add, ub_sub, ub_mul, ub_shl, ub_shr, ub_shl', ub_shr', ub_eql, ub_neq, ub_lss, ub_leq, ub_gtr, ub_geq, rc38l0, e1]
    refine rcond_dec (fun hlt => ?_) (fun hlt => ?_)
    · have hin : p < N := by omega
      have hin1 : p + 1 ≤ N := by omega
      have hnth := rowB_nth N (mark S f p) p hin
      have hval : mark S f p p = false := by rw [mark, hS _ (by omega) (by omega)]; simp
      rw [hval] at hnth
      have hset := rowB_set N (mark S f p) p hin
      rw [mark_step S f p hp] at hset
      have hlen := rowB_length N (mark S f p)
      have e2 : IntKind.i64.wrap ((p : Int) + 1) = (p : Int) + 1 := wrap_i64 (by omega) (by omega)
      simp (maxSteps := 1000000) (disch := first | assumption | omega | rfl | decide) [↓rules, rules, lit_u64, aEval_U, splice_nil, splice_zero, splice_step, gset_gset, Int.ofNat_inj, U_junk, U_cells, U_cellOk, ub_and, ub_or, ub_xor, ub_andNot, ub_add, ub_sub, ub_mul, ub_shl, ub_shr, ub_shl', ub_shr', ub_eql, ub_neq, ub_lss, ub_leq, ub_gtr, ub_geq, tu60, ts4, ta4, hin, hin1, hnth, hset, hlen, e2]
      refine ⟨f + m - (p + 1), by omega, p + 1, rfl, by omega, by omega, ?_⟩
      simp
    · have : p = f + m := by omega
      subst this
      exact ⟨.inr rfl, _, rfl, .inr ⟨rfl, rfl, rfl⟩⟩
  · exact ⟨f, by omega, Nat.le_refl _, by omega, by rw [mark_none, gset_self hb], rfl, rfl⟩
end Go.Proofs.Ythigpfognkmegaa.F

namespace Go.Proofs.Ythigpfognkmegaa.F
open Go Go.Proofs Go.Proofs.YthigpfognkmegaaAbs
/-- Taken below p, and from C on. -/
def T (C p : Nat) : Nat → Bool := fun k => decide (k < p) || decide (C ≤ k)
theorem T_mark (C p m : Nat) (h : p + m ≤ C) : mark (T C p) p (p + m) = T C (p + m) := by
  funext k
  simp only [mark, T]
  by_cases h1 : k < p
  · simp [h1, show k < p + m by omega]
  · by_cases h2 : k < p + m
    · simp [h1, h2, show p ≤ k by omega]
    · simp [h1, h2]
theorem T_free (C p m : Nat) (h : p + m ≤ C) : ∀ j, p ≤ j → j < p + m → T C p j = false := fun j h1 h2 => by simp [T]; omega
theorem take_T (b N C p m : Nat) (g : AMem) (n : Nat) (hN : N ≤ 1000000) (hC : C ≤ N) (hb : g b = some (.row (rowB N (T C p)) true)) (h : p + m ≤ C) :
    FnC Try.prog 38 [.slice (some ⟨b, 0, none⟩) N 1, .int .i64 p, .int .i64 m] g n (fun i => i = b) (.bool true) (gset g b (some (.row (rowB N (T C (p + m))) true))) n := by
  have := take b N p m (T C p) g n hN hb (by omega) (T_free C p m h)
  rwa [T_mark C p m h] at this
theorem take_X (b N C p m : Nat) {x y : Int} (hx : x = (p : Int)) (hy : y = (m : Int)) (g : AMem) (n : Nat) (hN : N ≤ 1000000) (hC : C ≤ N) (hb : g b = some (.row (rowB N (T C p)) true)) (h : p + m ≤ C) :
    FnC Try.prog 38 [.slice (some ⟨b, 0, none⟩) N 1, .int .i64 x, .int .i64 y] g n (fun i => i = b) (.bool true) (gset g b (some (.row (rowB N (T C (p + m))) true))) n := by
  subst hx; subst hy; exact take_T b N C p m g n hN hC hb h
theorem rowB_none (N : Nat) : List.replicate N (Value.bool false) = rowB N (fun _ => false) := by
  apply List.ext_getElem (by simp [rowB])
  intro i h1 h2
  simp [rowB]
/-- The heap while all is being taken. -/
def heapG (g : AMem) (n : Nat) (a b c : Int) (N C p : Nat) : AMem := gset (gset g n (some (.row [.int .i64 a, .int .i64 b, .int .i64 c] true))) (n + 1) (some (.row (rowB N (T C p)) true))
section
variable (g : AMem) (n : Nat) (a b c : Int) (N C p q : Nat)
theorem heapG_n : heapG g n a b c N C p n = some (.row [.int .i64 a, .int .i64 b, .int .i64 c] true) := by simp [heapG, gset]
theorem heapG_n1 : heapG g n a b c N C p (n + 1) = some (.row (rowB N (T C p)) true) := by simp [heapG, gset]
theorem heapG_set : gset (heapG g n a b c N C p) (n + 1) (some (.row (rowB N (T C q)) true)) = heapG g n a b c N C q := by rw [heapG, gset_gset]; rfl
end
theorem GeoApart (a b c : Int) (g : AMem) (n : Nat) : FnC Try.prog 8 [gv a b c] g n (fun _ => False) (.bool true) g n := by
  refine fnC_of_rwp t8 hm rfl fun hdom => ?_
  have kn := (Kept.refl hdom).new (.row [.int .i64 a, .int .i64 b, .int .i64 c] true)
  simp (maxSteps := 1000000) (disch := first | assumption | omega | rfl | decide) [↓rules, rules, lit_u64, aEval_U, splice_nil, splice_zero, splice_step, gset_gset, Int.ofNat_inj, U_junk, U_cells, U_cellOk, ub_and, ub_or, ub_xor, ub_andNot, ub_add, ub_sub, ub_mul, ub_shl, ub_shr, ub_shl', ub_shr', ub_eql, ub_neq, ub_lss, ub_leq, ub_gtr, ub_geq, rc8, ta45, ts45]
  refine rcall_quiet rfl (awake5 _ _) ?_
  simp (maxSteps := 1000000) (disch := first | assumption | omega | rfl | decide) [↓rules, rules, lit_u64, aEval_U, splice_nil, splice_zero, splice_step, gset_gset, Int.ofNat_inj, U_junk, U_cells, U_cellOk, ub_and, ub_or, ub_xor, ub_andNot, ub_add, ub_sub, ub_mul, ub_shl, ub_shr, ub_shl', ub_shr', ub_eql, ub_neq, ub_lss, ub_leq, ub_gtr, ub_geq, ta45, ts45]
  refine rcall_quiet rfl (GoodG _ _ _ _ _) ?_
  cases hg : goodG a b c
  · simp (maxSteps := 1000000) (disch := first | assumption | omega | rfl | decide) [↓rules, rules, lit_u64, aEval_U, splice_nil, splice_zero, splice_step, gset_gset, Int.ofNat_inj, U_junk, U_cells, U_cellOk, ub_and, ub_or, ub_xor, ub_andNot, ub_add, ub_sub, ub_mul, ub_shl, ub_shr, ub_shl', ub_shr', ub_eql, ub_neq, ub_lss, ub_leq, ub_gtr, ub_geq]
    refine done_q hdom kn ?_ ?_ <;> rfl
  have ok := goodG_iff.1 hg
  simp (maxSteps := 1000000) (disch := first | assumption | omega | rfl | decide) [↓rules, rules, lit_u64, aEval_U, splice_nil, splice_zero, splice_step, gset_gset, Int.ofNat_inj, U_junk, U_cells, U_cellOk, ub_and, ub_or, ub_xor, ub_andNot, ub_add, ub_sub, ub_mul, ub_shl, ub_shr, ub_shl', ub_shr', ub_eql, ub_neq, ub_lss, ub_leq, ub_gtr, ub_geq, ta45, ts45]
  refine rcall_quiet rfl (RowsG _ _ _ _ _) ?_
  obtain ⟨A, hA⟩ : ∃ k : Nat, a = k := ⟨a.toNat, by omega⟩
  obtain ⟨B, hB⟩ : ∃ k : Nat, b = k := ⟨b.toNat, by omega⟩
  obtain ⟨D, hD⟩ : ∃ k : Nat, c = k := ⟨c.toNat, by omega⟩
  obtain ⟨C, hC⟩ : ∃ C : Nat, C = 16 + A * 1208 + 2 * B + 8 * D := ⟨_, rfl⟩
  have hcopy : copyG a b c = (C : Int) := by rw [copyG, if_pos hg]; omega
  obtain ⟨N, hN⟩ : ∃ N : Nat, N = C + 8 := ⟨_, rfl⟩
  have hrows : IntKind.i64.wrap (8 * rowsG a b c) = (N : Int) := by
    rw [rowsG, if_pos hg, hcopy, wrap_i64 (by omega) (by omega)]; omega
  have hlock : lockG a b c = ((8 : Nat) : Int) := by rw [lockG, if_pos hg]; rfl
  have d1 : ¬ (N : Int) < 1 := by omega
  have d2 : ¬ (32768 : Int) < N := by omega
  have d3 : (N : Int) ≤ 70368744177664 := by omega
  have d4 : N ≤ 70368744177664 := by omega
  simp (maxSteps := 1000000) (disch := first | assumption | omega | rfl | decide) [↓rules, rules, lit_u64, aEval_U, splice_nil, splice_zero, splice_step, gset_gset, Int.ofNat_inj, U_junk, U_cells, U_cellOk, ub_and, ub_or, ub_xor, ub_andNot, ub_add, ub_sub, ub_mul, ub_shl, ub_shr, ub_shl', ub_shr', ub_eql, ub_neq, ub_lss, ub_leq, ub_gtr, ub_geq, hrows, d1, d2, d3, d4, aMake_eq tu60 ts4 tb4 tv4, zeroRow_one, ta45, ts45]
  rw [rowB_none]
  have hn : n ≠ n + 1 := by omega
  have W : ∀ S : Nat → Bool, (gset (gset g n (some (.row [.int .i64 a, .int .i64 b, .int .i64 c] true))) (n + 1) (some (.row (rowB N S) true))) (n + 1) = some (.row (rowB N S) true) := fun S => by simp [gset]
  have X : ∀ S : Nat → Bool, (gset (gset g n (some (.row [.int .i64 a, .int .i64 b, .int .i64 c] true))) (n + 1) (some (.row (rowB N S) true))) n = some (.row [.int .i64 a, .int .i64 b, .int .i64 c] true) := fun S => by simp [gset]
  have may : ∀ i, i = n + 1 → n ≤ i := fun i h => by omega
  refine rcall_new rfl (take (n + 1) N 0 8 _ _ _ (by omega) (W _) (by omega) (fun _ _ _ => rfl)) may rfl ?_
  rw [gset_gset]
  simp (maxSteps := 1000000) (disch := first | assumption | omega | rfl | decide) [↓rules, rules, lit_u64, aEval_U, splice_nil, splice_zero, splice_step, gset_gset, Int.ofNat_inj, U_junk, U_cells, U_cellOk, ub_and, ub_or, ub_xor, ub_andNot, ub_add, ub_sub, ub_mul, ub_shl, ub_shr, ub_shl', ub_shr', ub_eql, ub_neq, ub_lss, ub_leq, ub_gtr, ub_geq, ta45, ts45]
  refine rcall_quiet rfl (LockG _ _ _ _ _) ?_
  rw [hlock]
  simp (maxSteps := 1000000) (disch := first | assumption | omega | rfl | decide) [↓rules, rules, lit_u64, aEval_U, splice_nil, splice_zero, splice_step, gset_gset, Int.ofNat_inj, U_junk, U_cells, U_cellOk, ub_and, ub_or, ub_xor, ub_andNot, ub_add, ub_sub, ub_mul, ub_shl, ub_shr, ub_shl', ub_shr', ub_eql, ub_neq, ub_lss, ub_leq, ub_gtr, ub_geq]
  refine rcall_new rfl (take (n + 1) N 8 8 _ _ _ (by omega) (W _) (by omega) (fun j h1 h2 => by simp [mark]; omega)) may rfl ?_
  rw [gset_gset]
  simp (maxSteps := 1000000) (disch := first | assumption | omega | rfl | decide) [↓rules, rules, lit_u64, aEval_U, splice_nil, splice_zero, splice_step, gset_gset, Int.ofNat_inj, U_junk, U_cells, U_cellOk, ub_and, ub_or, ub_xor, ub_andNot, ub_add, ub_sub, ub_mul, ub_shl, ub_shr, ub_shl', ub_shr', ub_eql, ub_neq, ub_lss, ub_leq, ub_gtr, ub_geq, ta45, ts45]
  refine rcall_quiet rfl (CopyG _ _ _ _ _) ?_
  rw [hcopy]
  simp (maxSteps := 1000000) (disch := first | assumption | omega | rfl | decide) [↓rules, rules, lit_u64, aEval_U, splice_nil, splice_zero, splice_step, gset_gset, Int.ofNat_inj, U_junk, U_cells, U_cellOk, ub_and, ub_or, ub_xor, ub_andNot, ub_add, ub_sub, ub_mul, ub_shl, ub_shr, ub_shl', ub_shr', ub_eql, ub_neq, ub_lss, ub_leq, ub_gtr, ub_geq]
  refine rcall_new rfl (take (n + 1) N C 8 _ _ _ (by omega) (W _) (by omega) (fun j h1 h2 => by simp [mark]; omega)) may rfl ?_
  rw [gset_gset, show rowB N (mark (mark (mark (fun x => false) 0 (0 + 8)) 8 (8 + 8)) C (C + 8)) = rowB N (T C 16) from rowB_congr fun j hj => by
    simp only [mark, T]
    by_cases h1 : j < 8
    · simp [h1, show j < 16 by omega]
    · by_cases h2 : j < 16
      · simp [h1, h2, show 8 ≤ j by omega]
      · simp [h1, h2, show j < C + 8 by omega]]
  change rwp Try.prog _ _ _ _ (heapG g n a b c N C 16) (n + 1 + 1)
  have hs := heapG_set g n a b c N C
  have hx := heapG_n g n a b c N C
  have hw := heapG_n1 g n a b c N C
  simp (maxSteps := 1000000) (disch := first | assumption | omega | rfl | decide) [↓rules, rules, lit_u64, aEval_U, splice_nil, splice_zero, splice_step, gset_gset, Int.ofNat_inj, U_junk, U_cells, U_cellOk, ub_and, ub_or, ub_xor, ub_andNot, ub_add, ub_sub, ub_mul, ub_shl, ub_shr, ub_shl', ub_shr', ub_eql, ub_neq, ub_lss, ub_leq, ub_gtr, ub_geq]
  refine rwp_loop (fun k l g' n' => ∃ i : Nat, k = A - i ∧ i ≤ A ∧ g' = heapG g n a b c N C (16 + i * 1208) ∧ n' = n + 1 + 1 ∧ l = [(1, .pointer (some ⟨n, 0, none⟩)), (3, .int .i64 N), (4, .slice (some ⟨n + 1, 0, none⟩) N 1), (5, .bool true), (6, .int .i64 i)]) ?_ (k := A) ?_
  · rintro k l g' n' ⟨i, rfl, hi, rfl, rfl, rfl⟩
    simp (maxSteps := 1000000) (disch := first | assumption | omega | rfl | decide) [↓rules, rules, lit_u64, aEval_U, splice_nil, splice_zero, splice_step, gset_gset, Int.ofNat_inj, U_junk, U_cells, U_cellOk, ub_and, ub_or, ub_xor, ub_andNot, ub_add, ub_sub, ub_mul, ub_shl, ub_shr, ub_shl', ub_shr', ub_eql, ub_neq, ub_lss, ub_leq, ub_gtr, ub_geq, rc8l0, tf45_0, ta3, ts3, hx]
    refine rcond_dec (fun hlt => ?_) (fun hlt => ?_)
    · have hlt : i < A := by omega
      have hd : descG a b c i = (((16 + i * 1208 : Nat) : Int), ((1208 : Nat) : Int)) := by
        rw [descG, if_pos ⟨hg, by omega, by omega⟩]; congr 1
      simp (maxSteps := 1000000) (disch := first | assumption | omega | rfl | decide) [↓rules, rules, lit_u64, aEval_U, splice_nil, splice_zero, splice_step, gset_gset, Int.ofNat_inj, U_junk, U_cells, U_cellOk, ub_and, ub_or, ub_xor, ub_andNot, ub_add, ub_sub, ub_mul, ub_shl, ub_shr, ub_shl', ub_shr', ub_eql, ub_neq, ub_lss, ub_leq, ub_gtr, ub_geq, ta45, ts45, hx]
      refine rcall_quiet rfl (DescG _ _ _ _ _ _) ?_
      rw [hd]
      have e2 : IntKind.i64.wrap ((i : Int) + 1) = (i : Int) + 1 := wrap_i64 (by omega) (by omega)
      simp (maxSteps := 1000000) (disch := first | assumption | omega | rfl | decide) [↓rules, rules, lit_u64, aEval_U, splice_nil, splice_zero, splice_step, gset_gset, Int.ofNat_inj, U_junk, U_cells, U_cellOk, ub_and, ub_or, ub_xor, ub_andNot, ub_add, ub_sub, ub_mul, ub_shl, ub_shr, ub_shl', ub_shr', ub_eql, ub_neq, ub_lss, ub_leq, ub_gtr, ub_geq]
      refine rcall_new rfl (take_X (n + 1) N C (16 + i * 1208) 1208 (by omega) (by omega) _ _ (by omega) (by omega) (hw _) (by omega)) may rfl ?_
      rw [hs]
      simp (maxSteps := 1000000) (disch := first | assumption | omega | rfl | decide) [↓rules, rules, lit_u64, aEval_U, splice_nil, splice_zero, splice_step, gset_gset, Int.ofNat_inj, U_junk, U_cells, U_cellOk, ub_and, ub_or, ub_xor, ub_andNot, ub_add, ub_sub, ub_mul, ub_shl, ub_shr, ub_shl', ub_shr', ub_eql, ub_neq, ub_lss, ub_leq, ub_gtr, ub_geq, e2]
      refine ⟨A - (i + 1), by omega, i + 1, rfl, by omega, ?_, rfl⟩
      congr 1
      omega
    · have hiA : i = A := by omega
      subst hiA
      refine rwp_loop (fun k l g' n' => ∃ j : Nat, k = B - j ∧ j ≤ B ∧ g' = heapG g n a b c N C (16 + i * 1208 + 2 * j) ∧ n' = n + 1 + 1 ∧ l = [(1, .pointer (some ⟨n, 0, none⟩)), (3, .int .i64 N), (4, .slice (some ⟨n + 1, 0, none⟩) N 1), (5, .bool true), (9, .int .i64 j)]) ?_ (k := B) ?_
      · rintro k l g' n' ⟨j, rfl, hj, rfl, rfl, rfl⟩
        simp (maxSteps := 1000000) (disch := first | assumption | omega | rfl | decide) [↓rules, rules, lit_u64, aEval_U, splice_nil, splice_zero, splice_step, gset_gset, Int.ofNat_inj, U_junk, U_cells, U_cellOk, ub_and, ub_or, ub_xor, ub_andNot, ub_add, ub_sub, ub_mul, ub_shl, ub_shr, ub_shl', ub_shr', ub_eql, ub_neq, ub_lss, ub_leq, ub_gtr, ub_geq, rc8l1, tf45_1, ta3, ts3, hx]
        refine rcond_dec (fun hlt => ?_) (fun hlt => ?_)
        · have hlt : j < B := by omega
          have hd : slotG a b c j = ((16 + i * 1208 + 2 * j : Nat) : Int) := by
            rw [slotG, if_pos ⟨hg, by omega, by omega⟩]; omega
          simp (maxSteps := 1000000) (disch := first | assumption | omega | rfl | decide) [↓rules, rules, lit_u64, aEval_U, splice_nil, splice_zero, splice_step, gset_gset, Int.ofNat_inj, U_junk, U_cells, U_cellOk, ub_and, ub_or, ub_xor, ub_andNot, ub_add, ub_sub, ub_mul, ub_shl, ub_shr, ub_shl', ub_shr', ub_eql, ub_neq, ub_lss, ub_leq, ub_gtr, ub_geq, ta45, ts45, hx]
          refine rcall_quiet rfl (SlotG _ _ _ _ _ _) ?_
          rw [hd]
          have e2 : IntKind.i64.wrap ((j : Int) + 1) = (j : Int) + 1 := wrap_i64 (by omega) (by omega)
          simp (maxSteps := 1000000) (disch := first | assumption | omega | rfl | decide) [↓rules, rules, lit_u64, aEval_U, splice_nil, splice_zero, splice_step, gset_gset, Int.ofNat_inj, U_junk, U_cells, U_cellOk, ub_and, ub_or, ub_xor, ub_andNot, ub_add, ub_sub, ub_mul, ub_shl, ub_shr, ub_shl', ub_shr', ub_eql, ub_neq, ub_lss, ub_leq, ub_gtr, ub_geq]
          refine rcall_new rfl (take_X (n + 1) N C (16 + i * 1208 + 2 * j) 2 (by omega) (by omega) _ _ (by omega) (by omega) (hw _) (by omega)) may rfl ?_
          rw [hs]
          simp (maxSteps := 1000000) (disch := first | assumption | omega | rfl | decide) [↓rules, rules, lit_u64, aEval_U, splice_nil, splice_zero, splice_step, gset_gset, Int.ofNat_inj, U_junk, U_cells, U_cellOk, ub_and, ub_or, ub_xor, ub_andNot, ub_add, ub_sub, ub_mul, ub_shl, ub_shr, ub_shl', ub_shr', ub_eql, ub_neq, ub_lss, ub_leq, ub_gtr, ub_geq, e2]
          refine ⟨B - (j + 1), by omega, j + 1, rfl, by omega, ?_, rfl⟩
          congr 1
        · have hjB : j = B := by omega
          subst hjB
          refine rwp_loop (fun k l g' n' => ∃ d : Nat, k = D - d ∧ d ≤ D ∧ g' = heapG g n a b c N C (16 + i * 1208 + 2 * j + 8 * d) ∧ n' = n + 1 + 1 ∧ l = [(1, .pointer (some ⟨n, 0, none⟩)), (3, .int .i64 N), (4, .slice (some ⟨n + 1, 0, none⟩) N 1), (5, .bool true), (10, .int .i64 d)]) ?_ (k := D) ?_
          · rintro k l g' n' ⟨d, rfl, hd, rfl, rfl, rfl⟩
            simp (maxSteps := 1000000) (disch := first | assumption | omega | rfl | decide) [↓rules, rules, lit_u64, aEval_U, splice_nil, splice_zero, splice_step, gset_gset, Int.ofNat_inj, U_junk, U_cells, U_cellOk, ub_and, ub_or, ub_xor, ub_andNot, ub_add, ub_sub, ub_mul, ub_shl, ub_shr, ub_shl', ub_shr', ub_eql, ub_neq, ub_lss, ub_leq, ub_gtr, ub_geq, rc8l2, tf45_2, ta3, ts3, hx]
            refine rcond_dec (fun hlt => ?_) (fun hlt => ?_)
            · have hlt : d < D := by omega
              have hd : thingG a b c d = ((16 + i * 1208 + 2 * j + 8 * d : Nat) : Int) := by
                rw [thingG, if_pos ⟨hg, by omega, by omega⟩]; omega
              have hm8 : (thingG a b c d).tmod 8 = 0 := by
                rw [Int.tmod_eq_emod_of_nonneg (by omega)]; omega
              simp (maxSteps := 1000000) (disch := first | assumption | omega | rfl | decide) [↓rules, rules, lit_u64, aEval_U, splice_nil, splice_zero, splice_step, gset_gset, Int.ofNat_inj, U_junk, U_cells, U_cellOk, ub_and, ub_or, ub_xor, ub_andNot, ub_add, ub_sub, ub_mul, ub_shl, ub_shr, ub_shl', ub_shr', ub_eql, ub_neq, ub_lss, ub_leq, ub_gtr, ub_geq, ta45, ts45, hx]
              refine rcall_quiet rfl (ThingG _ _ _ _ _ _) ?_
              have e2 : IntKind.i64.wrap ((d : Int) + 1) = (d : Int) + 1 := wrap_i64 (by omega) (by omega)
              simp (maxSteps := 1000000) (disch := first | assumption | omega | rfl | decide) [↓rules, rules, lit_u64, aEval_U, splice_nil, splice_zero, splice_step, gset_gset, Int.ofNat_inj, U_junk, U_cells, U_cellOk, ub_and, ub_or, ub_xor, ub_andNot, ub_add, ub_sub, ub_mul, ub_shl, ub_shr, ub_shl', ub_shr', ub_eql, ub_neq, ub_lss, ub_leq, ub_gtr, ub_geq, bin_rem, hm8, ta45, ts45, hx]
              refine rcall_quiet rfl (ThingG _ _ _ _ _ _) ?_
              simp (maxSteps := 1000000) (disch := first | assumption | omega | rfl | decide) [↓rules, rules, lit_u64, aEval_U, splice_nil, splice_zero, splice_step, gset_gset, Int.ofNat_inj, U_junk, U_cells, U_cellOk, ub_and, ub_or, ub_xor, ub_andNot, ub_add, ub_sub, ub_mul, ub_shl, ub_shr, ub_shl', ub_shr', ub_eql, ub_neq, ub_lss, ub_leq, ub_gtr, ub_geq]
              refine rcall_new rfl (take_X (n + 1) N C (16 + i * 1208 + 2 * j + 8 * d) 8 hd (by omega) _ _ (by omega) (by omega) (hw _) (by omega)) may rfl ?_
              rw [hs]
              simp (maxSteps := 1000000) (disch := first | assumption | omega | rfl | decide) [↓rules, rules, lit_u64, aEval_U, splice_nil, splice_zero, splice_step, gset_gset, Int.ofNat_inj, U_junk, U_cells, U_cellOk, ub_and, ub_or, ub_xor, ub_andNot, ub_add, ub_sub, ub_mul, ub_shl, ub_shr, ub_shl', ub_shr', ub_eql, ub_neq, ub_lss, ub_leq, ub_gtr, ub_geq, e2]
              refine ⟨D - (d + 1), by omega, d + 1, rfl, by omega, ?_, rfl⟩
              congr 1
            · have hdD : d = D := by omega
              subst hdD
              refine rwp_loop (fun k l g' n' => ∃ m : Nat, k = N - m ∧ m ≤ N ∧ g' = heapG g n a b c N C (16 + i * 1208 + 2 * j + 8 * d) ∧ n' = n + 1 + 1 ∧ l = [(3, .int .i64 N), (4, .slice (some ⟨n + 1, 0, none⟩) N 1), (5, .bool true), (11, .int .i64 m)]) ?_ (k := N) ?_
              · rintro k l g' n' ⟨m, rfl, hm', rfl, rfl, rfl⟩
                simp (maxSteps := 1000000) (disch := first | assumption | omega | rfl | decide) [↓rules, rules, lit_u64, aEval_U, splice_nil, splice_zero, splice_step, gset_gset, Int.ofNat_inj, U_junk, U_cells, U_cellOk, ub_and, ub_or, ub_xor, ub_andNot, ub_add, ub_sub, ub_mul, ub_shl, ub_shr, ub_shl', ub_shr', ub_eql, ub_neq, ub_lss, ub_leq, ub_gtr, ub_geq, rc8l3]
                refine rcond_dec (fun hlt => ?_) (fun hlt => ?_)
                · have hlt : m < N := by omega
                  have hnth := rowB_nth N (T C (16 + i * 1208 + 2 * j + 8 * d)) m hlt
                  have hval : T C (16 + i * 1208 + 2 * j + 8 * d) m = true := by simp [T]; omega
                  rw [hval] at hnth
                  have e2 : IntKind.i64.wrap ((m : Int) + 1) = (m : Int) + 1 := wrap_i64 (by omega) (by omega)
                  simp (maxSteps := 1000000) (disch := first | assumption | omega | rfl | decide) [↓rules, rules, lit_u64, aEval_U, splice_nil, splice_zero, splice_step, gset_gset, Int.ofNat_inj, U_junk, U_cells, U_cellOk, ub_and, ub_or, ub_xor, ub_andNot, ub_add, ub_sub, ub_mul, ub_shl, ub_shr, ub_shl', ub_shr', ub_eql, ub_neq, ub_lss, ub_leq, ub_gtr, ub_geq, tu60, ts4, ta4, hlt, hw, hnth, e2]
                  refine ⟨N - (m + 1), by omega, m + 1, rfl, by omega, ?_⟩
                  simp
                · refine done_q hdom (((Kept.refl hdom).new _).new _) ?_ ?_ <;> rfl
              · exact ⟨0, by omega, by omega, rfl, rfl, rfl⟩
          · exact ⟨0, by omega, by omega, rfl, rfl, rfl⟩
      · exact ⟨0, by omega, by omega, rfl, rfl, rfl⟩
  · exact ⟨0, by omega, by omega, rfl, rfl, rfl⟩
theorem GeoApartX (x : Int × Int × Int) (g : AMem) (n : Nat) (hd : ∀ i, g i ≠ none → i < n) (_ : True) : FnC Try.prog 8 [.agg (encG x).toArray] g n (fun _ => False) (.bool true) g n :=
  GeoApart x.1 x.2.1 x.2.2 g n
end Go.Proofs.Ythigpfognkmegaa.F
