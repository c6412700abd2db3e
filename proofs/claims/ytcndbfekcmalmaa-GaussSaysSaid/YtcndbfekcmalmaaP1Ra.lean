/- Contracts of functions: what each one returns, and what it leaves. No statement is proved here. -/
import Derived.Test.YtcndbfekcmalmaaP1b
set_option linter.unusedVariables false
set_option linter.unusedSimpArgs false
namespace Go.Proofs.Ytcndbfekcmalmaa.F1
open Go Go.Proofs Go.Proofs.YtcndbfekcmalmaaAbs Go.Proofs.YtcndbfekcmalmaaAbs.Flt
set_option maxHeartbeats 4000000
set_option maxRecDepth 100000
/-! The reference's whole complex numbers. -/
theorem inf_bits (s : Bool) : ltF (D.word s D.infRung) 0 = s := lt_inf s
theorem ref_part {x : Nat} (hx : okX x) (g : AMem) (n : Nat) : FnC Try.prog f_reeveref1_part [.float .f64 x] g n (fun _ => False) (.tuple #[.int .i64 (wholeF x).1, .bool (wholeF x).2]) g n := by
  refine fnC_of_rwp t_reeveref1_part hm rfl fun hdom => ?_
  cases c1 : geF x low
  · have c1' := c1
    rw [low_lit] at c1'
    simp (maxSteps := 1000000) (disch := first | assumption | omega | rfl | decide | simp only [fitsR, Bool.and_self]) [↓rules, rules, ↓rulesDp, rulesDq, lit_u64, Int.ofNat_inj, stops, rc_reeveref1_part, q_int64, q_bool, q_float64, rulesF, c1']
    refine done_q hdom (Kept.refl hdom) rfl ?_
    rw [wholeF, if_neg (fun h => by rw [c1] at h; cases h.1)]; rfl
  cases c2 : leF x top
  · have c1' := c1; have c2' := c2
    rw [low_lit] at c1'; rw [top_lit] at c2'
    simp (maxSteps := 1000000) (disch := first | assumption | omega | rfl | decide | simp only [fitsR, Bool.and_self]) [↓rules, rules, ↓rulesDp, rulesDq, lit_u64, Int.ofNat_inj, stops, rc_reeveref1_part, q_int64, q_bool, q_float64, rulesF, c1', c2']
    refine done_q hdom (Kept.refl hdom) rfl ?_
    rw [wholeF, if_neg (fun h => by rw [c2] at h; cases h.2.1)]; rfl
  obtain ⟨s, m, e, hd, hT⟩ := between c1 c2
  have hT' : cutF m e < 9007199254740992 := by omega
  have c1' := c1; have c2' := c2
  rw [low_lit] at c1'; rw [top_lit] at c2'
  have hi := intF_le c1 c2
  have hcv : aConv Try.prog T_float64 T_int64 (.float .f64 x) = some (.int .i64 (intF x)) := conv_of_f64 tu_float64 tu_int64 hd (by omega)
  have hn := eqF_near hd hT'
  cases c3 : eqF x (truncF x)
  · rw [c3] at hn
    simp (maxSteps := 1000000) (disch := first | assumption | omega | rfl | decide | simp only [fitsR, Bool.and_self]) [↓rules, rules, ↓rulesDp, rulesDq, lit_u64, Int.ofNat_inj, stops, rc_reeveref1_part, q_int64, q_bool, q_float64, rulesF, c1', c2', hcv, conv_to_f64 tu_int64 tu_float64, hn]
    refine done_q hdom (Kept.refl hdom) rfl ?_
    rw [wholeF, if_neg (fun h => by rw [c3] at h; cases h.2.2.1)]; rfl
  have hz := zero_iff hd hT' c3
  rw [c3] at hn
  by_cases c4 : intF x = 0
  · rw [decide_eq_true c4] at hz
    have hm0 : m = 0 := by
      have h := eq_zero hd
      rw [hz] at h
      exact of_decide_eq_true h.symm
    subst hm0
    have hdv := div_zero hd
    have hlt := inf_bits s
    have hs := sign_read hx hd
    generalize D.word s D.infRung = iw at *
    have hdv' : D.div 4607182418800017408 x = some iw := hdv
    cases c5 : s
    · rw [c5] at hlt
      rw [c4] at hn
      simp (maxSteps := 1000000) (disch := first | assumption | omega | rfl | decide | simp only [fitsR, Bool.and_self]) [↓rules, rules, ↓rulesDp, rulesDq, lit_u64, Int.ofNat_inj, stops, rc_reeveref1_part, q_int64, q_bool, q_float64, rulesF, c1', c2', hcv, conv_to_f64 tu_int64 tu_float64, hn, c4, fb_quo hdv', hlt]
      refine done_q hdom (Kept.refl hdom) rfl ?_
      rw [wholeF, if_pos ⟨c1, c2, c3, fun h => by have := h.2; rw [← hs, c5] at this; cases this⟩, c4]; rfl
    · rw [c5] at hlt
      rw [c4] at hn
      simp (maxSteps := 1000000) (disch := first | assumption | omega | rfl | decide | simp only [fitsR, Bool.and_self]) [↓rules, rules, ↓rulesDp, rulesDq, lit_u64, Int.ofNat_inj, stops, rc_reeveref1_part, q_int64, q_bool, q_float64, rulesF, c1', c2', hcv, conv_to_f64 tu_int64 tu_float64, hn, c4, fb_quo hdv', hlt]
      refine done_q hdom (Kept.refl hdom) rfl ?_
      rw [wholeF, if_neg (fun h => h.2.2.2 ⟨hz, by rw [← hs, c5]⟩)]; rfl
  · rw [decide_eq_false c4] at hz
    simp (maxSteps := 1000000) (disch := first | assumption | omega | rfl | decide | simp only [fitsR, Bool.and_self]) [↓rules, rules, ↓rulesDp, rulesDq, lit_u64, Int.ofNat_inj, stops, rc_reeveref1_part, q_int64, q_bool, q_float64, rulesF, c1', c2', hcv, conv_to_f64 tu_int64 tu_float64, hn, c4]
    refine done_q hdom (Kept.refl hdom) rfl ?_
    rw [wholeF, if_pos ⟨c1, c2, c3, fun h => by have := h.1; rw [hz] at this; cases this⟩]; rfl
theorem ref_Parts {x y : Nat} (hx : okX x) (hy : okX y) (g : AMem) (n : Nat) : FnC Try.prog f_reeveref1_Parts [cv x y] g n (fun _ => False) (.tuple #[.int .i64 (partsZ x y).1, .int .i64 (partsZ x y).2.1, .bool (partsZ x y).2.2]) g n := by
  refine fnC_of_rwp t_reeveref1_Parts hm rfl fun hdom => ?_
  simp (maxSteps := 1000000) (disch := first | assumption | omega | rfl | decide | simp only [fitsR, Bool.and_self]) [↓rules, rules, ↓rulesDp, rulesDq, lit_u64, Int.ofNat_inj, stops, rc_reeveref1_Parts, q_int64, q_bool, q_complex128, q_float64, rulesF, rdo_builtin]
  refine rcall_quiet rfl (ref_part hx _ _) ?_
  simp (maxSteps := 1000000) (disch := first | assumption | omega | rfl | decide | simp only [fitsR, Bool.and_self]) [↓rules, rules, ↓rulesDp, rulesDq, lit_u64, Int.ofNat_inj, stops, q_int64, q_bool, q_complex128, q_float64, rulesF, rdo_builtin]
  refine rcall_quiet rfl (ref_part hy _ _) ?_
  unfold partsZ
  cases c1 : (wholeF x).2
  · simp (maxSteps := 1000000) (disch := first | assumption | omega | rfl | decide | simp only [fitsR, Bool.and_self]) [↓rules, rules, ↓rulesDp, rulesDq, lit_u64, Int.ofNat_inj, stops, q_int64, q_bool, q_complex128, q_float64]
    refine done_q hdom (Kept.refl hdom) rfl ?_
    first | rfl | (simp; rfl)
  cases c2 : (wholeF y).2
  · simp (maxSteps := 1000000) (disch := first | assumption | omega | rfl | decide | simp only [fitsR, Bool.and_self]) [↓rules, rules, ↓rulesDp, rulesDq, lit_u64, Int.ofNat_inj, stops, q_int64, q_bool, q_complex128, q_float64]
    refine done_q hdom (Kept.refl hdom) rfl ?_
    first | rfl | (simp; rfl)
  simp (maxSteps := 1000000) (disch := first | assumption | omega | rfl | decide | simp only [fitsR, Bool.and_self]) [↓rules, rules, ↓rulesDp, rulesDq, lit_u64, Int.ofNat_inj, stops, q_int64, q_bool, q_complex128, q_float64]
  refine done_q hdom (Kept.refl hdom) rfl ?_
  first | rfl | (simp; rfl)
theorem ref_Of (a b : Int) (g : AMem) (n : Nat) : FnC Try.prog f_reeveref1_Of [.int .i64 a, .int .i64 b] g n (fun _ => False) (.tuple #[cv (ofZ a b).1 (ofZ a b).2.1, .bool (ofZ a b).2.2]) g n := by
  refine fnC_of_rwp t_reeveref1_Of hm rfl fun hdom => ?_
  by_cases c1 : a < -1099511627776
  · simp (maxSteps := 1000000) (disch := first | assumption | omega | rfl | decide | simp only [fitsR, Bool.and_self]) [↓rules, rules, ↓rulesDp, rulesDq, lit_u64, Int.ofNat_inj, stops, rc_reeveref1_Of, q_int64, q_bool, q_complex128, q_float64, c1]
    refine done_q hdom (Kept.refl hdom) rfl ?_
    rw [ofZ_no (fun h => by have := of_decide_eq_true h.1; omega)]; rfl
  by_cases c2 : 1099511627776 < a
  · simp (maxSteps := 1000000) (disch := first | assumption | omega | rfl | decide | simp only [fitsR, Bool.and_self]) [↓rules, rules, ↓rulesDp, rulesDq, lit_u64, Int.ofNat_inj, stops, rc_reeveref1_Of, q_int64, q_bool, q_complex128, q_float64, c1, c2]
    refine done_q hdom (Kept.refl hdom) rfl ?_
    rw [ofZ_no (fun h => by have := of_decide_eq_true h.1; omega)]; rfl
  by_cases c3 : b < -1099511627776
  · simp (maxSteps := 1000000) (disch := first | assumption | omega | rfl | decide | simp only [fitsR, Bool.and_self]) [↓rules, rules, ↓rulesDp, rulesDq, lit_u64, Int.ofNat_inj, stops, rc_reeveref1_Of, q_int64, q_bool, q_complex128, q_float64, c1, c2, c3]
    refine done_q hdom (Kept.refl hdom) rfl ?_
    rw [ofZ_no (fun h => by have := of_decide_eq_true h.2; omega)]; rfl
  by_cases c4 : 1099511627776 < b
  · simp (maxSteps := 1000000) (disch := first | assumption | omega | rfl | decide | simp only [fitsR, Bool.and_self]) [↓rules, rules, ↓rulesDp, rulesDq, lit_u64, Int.ofNat_inj, stops, rc_reeveref1_Of, q_int64, q_bool, q_complex128, q_float64, c1, c2, c3, c4]
    refine done_q hdom (Kept.refl hdom) rfl ?_
    rw [ofZ_no (fun h => by have := of_decide_eq_true h.2; omega)]; rfl
  simp (maxSteps := 1000000) (disch := first | assumption | omega | rfl | decide | simp only [fitsR, Bool.and_self]) [↓rules, rules, ↓rulesDp, rulesDq, lit_u64, Int.ofNat_inj, stops, rc_reeveref1_Of, q_int64, q_bool, q_complex128, q_float64, c1, c2, c3, c4, conv_to_f64 tu_int64 tu_float64, rulesF, rdo_builtin]
  refine done_q hdom (Kept.refl hdom) rfl ?_
  rw [ofZ_yes (decide_eq_true (by omega)) (decide_eq_true (by omega))]; rfl
theorem ref_Add {x y u v : Nat} (hx : okX x) (hy : okX y) (hu : okX u) (hv : okX v) (g : AMem) (n : Nat) : FnC Try.prog f_reeveref1_Add [cv x y, cv u v] g n (fun _ => False) (.tuple #[cv (addZ x y u v).1 (addZ x y u v).2.1, .bool (addZ x y u v).2.2]) g n := by
  refine fnC_of_rwp t_reeveref1_Add hm rfl fun hdom => ?_
  simp (maxSteps := 1000000) (disch := first | assumption | omega | rfl | decide | simp only [fitsR, Bool.and_self]) [↓rules, rules, ↓rulesDp, rulesDq, lit_u64, Int.ofNat_inj, stops, rc_reeveref1_Add, q_int64, q_bool, q_complex128]
  refine rcall_quiet rfl (ref_Parts hx hy _ _) ?_
  simp (maxSteps := 1000000) (disch := first | assumption | omega | rfl | decide | simp only [fitsR, Bool.and_self]) [↓rules, rules, ↓rulesDp, rulesDq, lit_u64, Int.ofNat_inj, stops, q_int64, q_bool, q_complex128]
  refine rcall_quiet rfl (ref_Parts hu hv _ _) ?_
  have i1 := partsZ_in x y
  have i2 := partsZ_in u v
  unfold addZ
  cases c1 : (partsZ x y).2.2
  · simp (maxSteps := 1000000) (disch := first | assumption | omega | rfl | decide | simp only [fitsR, Bool.and_self]) [↓rules, rules, ↓rulesDp, rulesDq, lit_u64, Int.ofNat_inj, stops, q_int64, q_bool, q_complex128]
    refine done_q hdom (Kept.refl hdom) rfl ?_
    first | rfl | (simp; rfl)
  cases c2 : (partsZ u v).2.2
  · simp (maxSteps := 1000000) (disch := first | assumption | omega | rfl | decide | simp only [fitsR, Bool.and_self]) [↓rules, rules, ↓rulesDp, rulesDq, lit_u64, Int.ofNat_inj, stops, q_int64, q_bool, q_complex128]
    refine done_q hdom (Kept.refl hdom) rfl ?_
    first | rfl | (simp; rfl)
  have w1 : IntKind.i64.wrap ((partsZ x y).1 + (partsZ u v).1) = (partsZ x y).1 + (partsZ u v).1 := wrap_i64 (by omega) (by omega)
  have w2 : IntKind.i64.wrap ((partsZ x y).2.1 + (partsZ u v).2.1) = (partsZ x y).2.1 + (partsZ u v).2.1 := wrap_i64 (by omega) (by omega)
  simp (maxSteps := 1000000) (disch := first | assumption | omega | rfl | decide | simp only [fitsR, Bool.and_self]) [↓rules, rules, ↓rulesDp, rulesDq, lit_u64, Int.ofNat_inj, stops, q_int64, q_bool, q_complex128, w1, w2]
  refine rcall_quiet rfl (ref_Of _ _ _ _) ?_
  simp (maxSteps := 1000000) (disch := first | assumption | omega | rfl | decide | simp only [fitsR, Bool.and_self]) [↓rules, rules, ↓rulesDp, rulesDq, lit_u64, Int.ofNat_inj, stops, q_int64, q_bool, q_complex128]
  refine done_q hdom (Kept.refl hdom) rfl ?_
  first | rfl | (simp; rfl)
def s1Z (a : Int) : Bool := decide (-1073741824 ≤ a ∧ a ≤ 1073741824)
theorem smallZ_eq (a b : Int) : smallZ a b = (s1Z a && s1Z b) := by
  unfold smallZ s1Z
  by_cases c1 : -1073741824 ≤ a ∧ a ≤ 1073741824
  · rw [decide_eq_true c1, Bool.true_and]
    by_cases c2 : -1073741824 ≤ b ∧ b ≤ 1073741824
    · rw [decide_eq_true c2, decide_eq_true (by omega)]
    · rw [decide_eq_false c2, decide_eq_false (by omega)]
  · rw [decide_eq_false c1, Bool.false_and, decide_eq_false (by omega)]
theorem ref_small (v : Int) (g : AMem) (n : Nat) : FnC Try.prog f_reeveref1_small [.int .i64 v] g n (fun _ => False) (.bool (s1Z v)) g n := by
  refine fnC_of_rwp t_reeveref1_small hm rfl fun hdom => ?_
  unfold s1Z
  by_cases c1 : -1073741824 ≤ v
  · simp (maxSteps := 1000000) (disch := first | assumption | omega | rfl | decide | simp only [fitsR, Bool.and_self]) [↓rules, rules, ↓rulesDp, rulesDq, lit_u64, Int.ofNat_inj, stops, rc_reeveref1_small, q_int64, q_bool, c1]
    refine done_q hdom (Kept.refl hdom) rfl ?_
    first | rfl | (simp [c1]; rfl)
  · simp (maxSteps := 1000000) (disch := first | assumption | omega | rfl | decide | simp only [fitsR, Bool.and_self]) [↓rules, rules, ↓rulesDp, rulesDq, lit_u64, Int.ofNat_inj, stops, rc_reeveref1_small, q_int64, q_bool, c1]
    refine done_q hdom (Kept.refl hdom) rfl ?_
    first | rfl | (simp [c1]; rfl)
end Go.Proofs.Ytcndbfekcmalmaa.F1

namespace Go.Proofs.Ytcndbfekcmalmaa.F1
open Go Go.Proofs Go.Proofs.YtcndbfekcmalmaaAbs Go.Proofs.YtcndbfekcmalmaaAbs.Flt
set_option maxHeartbeats 4000000
set_option maxRecDepth 100000
theorem and3 (q : Int) : bAnd .i64 q 3 = ((quarters q : Nat) : Int) := by
  show IntKind.i64.wrap ((BitVec.ofInt 64 q &&& BitVec.ofInt 64 3 : BitVec 64).toNat : Int) = _
  have e : (BitVec.ofInt 64 q &&& BitVec.ofInt 64 3 : BitVec 64).toNat = quarters q := by
    rw [BitVec.toNat_and, show (BitVec.ofInt 64 3).toNat = 2 ^ 2 - 1 from rfl, Nat.and_two_pow_sub_one_eq_mod, BitVec.toNat_ofInt]
    unfold quarters
    omega
  rw [e]
  exact wrap_i64 (by omega) (by unfold quarters; omega)
theorem ref_Mul {x y u v : Nat} (hx : okX x) (hy : okX y) (hu : okX u) (hv : okX v) (g : AMem) (n : Nat) : FnC Try.prog f_reeveref1_Mul [cv x y, cv u v] g n (fun _ => False) (.tuple #[cv (mulZ x y u v).1 (mulZ x y u v).2.1, .bool (mulZ x y u v).2.2]) g n := by
  refine fnC_of_rwp t_reeveref1_Mul hm rfl fun hdom => ?_
  simp (maxSteps := 1000000) (disch := first | assumption | omega | rfl | decide | simp only [fitsR, Bool.and_self]) [↓rules, rules, ↓rulesDp, rulesDq, lit_u64, Int.ofNat_inj, stops, rc_reeveref1_Mul, q_int64, q_bool, q_complex128]
  refine rcall_quiet rfl (ref_Parts hx hy _ _) ?_
  simp (maxSteps := 1000000) (disch := first | assumption | omega | rfl | decide | simp only [fitsR, Bool.and_self]) [↓rules, rules, ↓rulesDp, rulesDq, lit_u64, Int.ofNat_inj, stops, q_int64, q_bool, q_complex128]
  refine rcall_quiet rfl (ref_Parts hu hv _ _) ?_
  have i1 := partsZ_in x y
  have i2 := partsZ_in u v
  unfold mulZ
  rw [smallZ_eq, smallZ_eq]
  cases c1 : (partsZ x y).2.2
  · simp (maxSteps := 1000000) (disch := first | assumption | omega | rfl | decide | simp only [fitsR, Bool.and_self]) [↓rules, rules, ↓rulesDp, rulesDq, lit_u64, Int.ofNat_inj, stops, q_int64, q_bool, q_complex128]
    refine done_q hdom (Kept.refl hdom) rfl ?_
    first | rfl | (simp; rfl)
  cases c2 : (partsZ u v).2.2
  · simp (maxSteps := 1000000) (disch := first | assumption | omega | rfl | decide | simp only [fitsR, Bool.and_self]) [↓rules, rules, ↓rulesDp, rulesDq, lit_u64, Int.ofNat_inj, stops, q_int64, q_bool, q_complex128]
    refine done_q hdom (Kept.refl hdom) rfl ?_
    first | rfl | (simp; rfl)
  generalize (partsZ x y).1 = a at *
  generalize (partsZ x y).2.1 = b at *
  generalize (partsZ u v).1 = c at *
  generalize (partsZ u v).2.1 = d at *
  simp (maxSteps := 1000000) (disch := first | assumption | omega | rfl | decide | simp only [fitsR, Bool.and_self]) [↓rules, rules, ↓rulesDp, rulesDq, lit_u64, Int.ofNat_inj, stops, q_int64, q_bool, q_complex128]
  refine rcall_quiet rfl (ref_small _ _ _) ?_
  cases s1 : s1Z a
  · simp (maxSteps := 1000000) (disch := first | assumption | omega | rfl | decide | simp only [fitsR, Bool.and_self]) [↓rules, rules, ↓rulesDp, rulesDq, lit_u64, Int.ofNat_inj, stops, q_int64, q_bool, q_complex128]
    refine done_q hdom (Kept.refl hdom) rfl ?_
    first | rfl | (simp; rfl)
  simp (maxSteps := 1000000) (disch := first | assumption | omega | rfl | decide | simp only [fitsR, Bool.and_self]) [↓rules, rules, ↓rulesDp, rulesDq, lit_u64, Int.ofNat_inj, stops, q_int64, q_bool, q_complex128]
  refine rcall_quiet rfl (ref_small _ _ _) ?_
  cases s2 : s1Z b
  · simp (maxSteps := 1000000) (disch := first | assumption | omega | rfl | decide | simp only [fitsR, Bool.and_self]) [↓rules, rules, ↓rulesDp, rulesDq, lit_u64, Int.ofNat_inj, stops, q_int64, q_bool, q_complex128]
    refine done_q hdom (Kept.refl hdom) rfl ?_
    first | rfl | (simp; rfl)
  simp (maxSteps := 1000000) (disch := first | assumption | omega | rfl | decide | simp only [fitsR, Bool.and_self]) [↓rules, rules, ↓rulesDp, rulesDq, lit_u64, Int.ofNat_inj, stops, q_int64, q_bool, q_complex128]
  refine rcall_quiet rfl (ref_small _ _ _) ?_
  cases s3 : s1Z c
  · simp (maxSteps := 1000000) (disch := first | assumption | omega | rfl | decide | simp only [fitsR, Bool.and_self]) [↓rules, rules, ↓rulesDp, rulesDq, lit_u64, Int.ofNat_inj, stops, q_int64, q_bool, q_complex128]
    refine done_q hdom (Kept.refl hdom) rfl ?_
    first | rfl | (simp; rfl)
  simp (maxSteps := 1000000) (disch := first | assumption | omega | rfl | decide | simp only [fitsR, Bool.and_self]) [↓rules, rules, ↓rulesDp, rulesDq, lit_u64, Int.ofNat_inj, stops, q_int64, q_bool, q_complex128]
  refine rcall_quiet rfl (ref_small _ _ _) ?_
  cases s4 : s1Z d
  · simp (maxSteps := 1000000) (disch := first | assumption | omega | rfl | decide | simp only [fitsR, Bool.and_self]) [↓rules, rules, ↓rulesDp, rulesDq, lit_u64, Int.ofNat_inj, stops, q_int64, q_bool, q_complex128]
    refine done_q hdom (Kept.refl hdom) rfl ?_
    first | rfl | (simp; rfl)
  have s1 := of_decide_eq_true s1
  have s2 := of_decide_eq_true s2
  have s3 := of_decide_eq_true s3
  have s4 := of_decide_eq_true s4
  have p1 := prod_small (a := a) (b := c) (by omega) (by omega)
  have p2 := prod_small (a := b) (b := d) (by omega) (by omega)
  have p3 := prod_small (a := a) (b := d) (by omega) (by omega)
  have p4 := prod_small (a := b) (b := c) (by omega) (by omega)
  have w1 : IntKind.i64.wrap (a * c) = a * c := wrap_i64 (by omega) (by omega)
  have w2 : IntKind.i64.wrap (b * d) = b * d := wrap_i64 (by omega) (by omega)
  have w3 : IntKind.i64.wrap (a * d) = a * d := wrap_i64 (by omega) (by omega)
  have w4 : IntKind.i64.wrap (b * c) = b * c := wrap_i64 (by omega) (by omega)
  have w5 : IntKind.i64.wrap (a * c - b * d) = a * c - b * d := wrap_i64 (by omega) (by omega)
  have w6 : IntKind.i64.wrap (a * d + b * c) = a * d + b * c := wrap_i64 (by omega) (by omega)
  simp (maxSteps := 1000000) (disch := first | assumption | omega | rfl | decide | simp only [fitsR, Bool.and_self]) [↓rules, rules, ↓rulesDp, rulesDq, lit_u64, Int.ofNat_inj, stops, q_int64, q_bool, q_complex128, w1, w2, w3, w4, w5, w6]
  refine rcall_quiet rfl (ref_Of _ _ _ _) ?_
  simp (maxSteps := 1000000) (disch := first | assumption | omega | rfl | decide | simp only [fitsR, Bool.and_self]) [↓rules, rules, ↓rulesDp, rulesDq, lit_u64, Int.ofNat_inj, stops, q_int64, q_bool, q_complex128]
  refine done_q hdom (Kept.refl hdom) rfl ?_
  first | rfl | (simp; rfl)
theorem ref_Norm {x y : Nat} (hx : okX x) (hy : okX y) (g : AMem) (n : Nat) : FnC Try.prog f_reeveref1_Norm [cv x y] g n (fun _ => False) (.int .i64 (normZ x y)) g n := by
  refine fnC_of_rwp t_reeveref1_Norm hm rfl fun hdom => ?_
  simp (maxSteps := 1000000) (disch := first | assumption | omega | rfl | decide | simp only [fitsR, Bool.and_self]) [↓rules, rules, ↓rulesDp, rulesDq, lit_u64, Int.ofNat_inj, stops, rc_reeveref1_Norm, q_int64, q_bool, q_complex128]
  refine rcall_quiet rfl (ref_Parts hx hy _ _) ?_
  have i1 := partsZ_in x y
  unfold normZ
  rw [smallZ_eq]
  cases c1 : (partsZ x y).2.2
  · simp (maxSteps := 1000000) (disch := first | assumption | omega | rfl | decide | simp only [fitsR, Bool.and_self]) [↓rules, rules, ↓rulesDp, rulesDq, lit_u64, Int.ofNat_inj, stops, q_int64, q_bool, q_complex128]
    refine done_q hdom (Kept.refl hdom) rfl ?_
    first | rfl | (simp; rfl)
  generalize (partsZ x y).1 = a at *
  generalize (partsZ x y).2.1 = b at *
  simp (maxSteps := 1000000) (disch := first | assumption | omega | rfl | decide | simp only [fitsR, Bool.and_self]) [↓rules, rules, ↓rulesDp, rulesDq, lit_u64, Int.ofNat_inj, stops, q_int64, q_bool, q_complex128]
  refine rcall_quiet rfl (ref_small _ _ _) ?_
  cases s1 : s1Z a
  · simp (maxSteps := 1000000) (disch := first | assumption | omega | rfl | decide | simp only [fitsR, Bool.and_self]) [↓rules, rules, ↓rulesDp, rulesDq, lit_u64, Int.ofNat_inj, stops, q_int64, q_bool, q_complex128]
    refine done_q hdom (Kept.refl hdom) rfl ?_
    first | rfl | (simp; rfl)
  simp (maxSteps := 1000000) (disch := first | assumption | omega | rfl | decide | simp only [fitsR, Bool.and_self]) [↓rules, rules, ↓rulesDp, rulesDq, lit_u64, Int.ofNat_inj, stops, q_int64, q_bool, q_complex128]
  refine rcall_quiet rfl (ref_small _ _ _) ?_
  cases s2 : s1Z b
  · simp (maxSteps := 1000000) (disch := first | assumption | omega | rfl | decide | simp only [fitsR, Bool.and_self]) [↓rules, rules, ↓rulesDp, rulesDq, lit_u64, Int.ofNat_inj, stops, q_int64, q_bool, q_complex128]
    refine done_q hdom (Kept.refl hdom) rfl ?_
    first | rfl | (simp; rfl)
  have s1 := of_decide_eq_true s1
  have s2 := of_decide_eq_true s2
  have p1 := prod_small (a := a) (b := a) (by omega) (by omega)
  have p2 := prod_small (a := b) (b := b) (by omega) (by omega)
  have w1 : IntKind.i64.wrap (a * a) = a * a := wrap_i64 (by omega) (by omega)
  have w2 : IntKind.i64.wrap (b * b) = b * b := wrap_i64 (by omega) (by omega)
  have w5 : IntKind.i64.wrap (a * a + b * b) = a * a + b * b := wrap_i64 (by omega) (by omega)
  simp (maxSteps := 1000000) (disch := first | assumption | omega | rfl | decide | simp only [fitsR, Bool.and_self]) [↓rules, rules, ↓rulesDp, rulesDq, lit_u64, Int.ofNat_inj, stops, q_int64, q_bool, q_complex128, w1, w2, w5]
  refine done_q hdom (Kept.refl hdom) rfl ?_
  first | rfl | (simp; rfl)
theorem ref_rest (v : Int) (g : AMem) (n : Nat) : FnC Try.prog f_reeveref1_rest [.int .i64 v] g n (fun _ => False) (.int .i64 (restI v)) g n := by
  refine fnC_of_rwp t_reeveref1_rest hm rfl fun hdom => ?_
  have h1 := Int.tmod_lt_of_pos v (show (0:Int) < 1000003 by decide)
  have h2 := Int.lt_tmod_of_pos v (show (0:Int) < 1000003 by decide)
  have e := Int.tmod_eq_emod (a := v) (b := 1000003)
  unfold restI
  by_cases c : v.tmod 1000003 < 0
  · have w : IntKind.i64.wrap (v.tmod 1000003 + 1000003) = v % 1000003 := by rw [wrap_i64 (by omega) (by omega)]; split at e <;> omega
    simp (maxSteps := 1000000) (disch := first | assumption | omega | rfl | decide | simp only [fitsR, Bool.and_self]) [↓rules, rules, ↓rulesDp, rulesDq, lit_u64, Int.ofNat_inj, stops, rc_reeveref1_rest, q_int64, q_bool, bin_rem, w, c]
    exact done_q hdom (Kept.refl hdom) rfl rfl
  · have e2 : v.tmod 1000003 = v % 1000003 := by split at e <;> omega
    have c' : ¬ v % 1000003 < 0 := by omega
    simp (maxSteps := 1000000) (disch := first | assumption | omega | rfl | decide | simp only [fitsR, Bool.and_self]) [↓rules, rules, ↓rulesDp, rulesDq, lit_u64, Int.ofNat_inj, stops, rc_reeveref1_rest, q_int64, q_bool, bin_rem, c', e2]
    exact done_q hdom (Kept.refl hdom) rfl rfl
theorem ref_Turn {x y : Nat} (hx : okX x) (hy : okX y) (q : Int) (g : AMem) (n : Nat) : FnC Try.prog f_reeveref1_Turn [cv x y, .int .i64 q] g n (fun _ => False) (cv (turnZ x y q).1 (turnZ x y q).2) g n := by
  refine fnC_of_rwp t_reeveref1_Turn hm rfl fun hdom => ?_
  simp (maxSteps := 1000000) (disch := first | assumption | omega | rfl | decide | simp only [fitsR, Bool.and_self]) [↓rules, rules, ↓rulesDp, rulesDq, lit_u64, Int.ofNat_inj, stops, rc_reeveref1_Turn, q_int64, q_int, q_bool, q_complex128]
  refine rcall_quiet rfl (ref_Parts hx hy _ _) ?_
  have i1 := partsZ_in x y
  unfold turnZ
  cases c1 : (partsZ x y).2.2
  · simp (maxSteps := 1000000) (disch := first | assumption | omega | rfl | decide | simp only [fitsR, Bool.and_self]) [↓rules, rules, ↓rulesDp, rulesDq, lit_u64, Int.ofNat_inj, stops, q_int64, q_int, q_bool, q_complex128]
    refine done_q hdom (Kept.refl hdom) rfl ?_
    first | rfl | (simp; rfl)
  generalize (partsZ x y).1 = a at *
  generalize (partsZ x y).2.1 = b at *
  have ha : inZ a = true := decide_eq_true i1.1
  have hb : inZ b = true := decide_eq_true i1.2
  have ha' : inZ (-a) = true := decide_eq_true (by omega)
  have hb' : inZ (-b) = true := decide_eq_true (by omega)
  have hq := and3 q
  have hq4 : quarters q < 4 := by unfold quarters; omega
  generalize quarters q = k at *
  have wa : IntKind.i64.wrap (-a) = -a := wrap_i64 (by omega) (by omega)
  have wb : IntKind.i64.wrap (-b) = -b := wrap_i64 (by omega) (by omega)
  have hk : k = 0 ∨ k = 1 ∨ k = 2 ∨ k = 3 := by omega
  rcases hk with rfl | rfl | rfl | rfl
  · simp (maxSteps := 1000000) (disch := first | assumption | omega | rfl | decide | simp only [fitsR, Bool.and_self]) [↓rules, rules, ↓rulesDp, rulesDq, lit_u64, Int.ofNat_inj, stops, q_int64, q_int, q_bool, q_complex128, hq]
    refine rcall_quiet rfl (ref_Of _ _ _ _) ?_
    rw [ofZ_yes ha hb]
    simp (maxSteps := 1000000) (disch := first | assumption | omega | rfl | decide | simp only [fitsR, Bool.and_self]) [↓rules, rules, ↓rulesDp, rulesDq, lit_u64, Int.ofNat_inj, stops, q_int64, q_int, q_bool, q_complex128]
    refine done_q hdom (Kept.refl hdom) rfl ?_
    first | rfl | (simp [turnI]; rfl)
  · simp (maxSteps := 1000000) (disch := first | assumption | omega | rfl | decide | simp only [fitsR, Bool.and_self]) [↓rules, rules, ↓rulesDp, rulesDq, lit_u64, Int.ofNat_inj, stops, q_int64, q_int, q_bool, q_complex128, hq, wa, wb]
    refine rcall_quiet rfl (ref_Of _ _ _ _) ?_
    rw [ofZ_yes hb' ha]
    simp (maxSteps := 1000000) (disch := first | assumption | omega | rfl | decide | simp only [fitsR, Bool.and_self]) [↓rules, rules, ↓rulesDp, rulesDq, lit_u64, Int.ofNat_inj, stops, q_int64, q_int, q_bool, q_complex128]
    refine done_q hdom (Kept.refl hdom) rfl ?_
    first | rfl | (simp [turnI]; rfl)
  · simp (maxSteps := 1000000) (disch := first | assumption | omega | rfl | decide | simp only [fitsR, Bool.and_self]) [↓rules, rules, ↓rulesDp, rulesDq, lit_u64, Int.ofNat_inj, stops, q_int64, q_int, q_bool, q_complex128, hq, wa, wb]
    refine rcall_quiet rfl (ref_Of _ _ _ _) ?_
    rw [ofZ_yes ha' hb']
    simp (maxSteps := 1000000) (disch := first | assumption | omega | rfl | decide | simp only [fitsR, Bool.and_self]) [↓rules, rules, ↓rulesDp, rulesDq, lit_u64, Int.ofNat_inj, stops, q_int64, q_int, q_bool, q_complex128]
    refine done_q hdom (Kept.refl hdom) rfl ?_
    first | rfl | (simp [turnI]; rfl)
  · simp (maxSteps := 1000000) (disch := first | assumption | omega | rfl | decide | simp only [fitsR, Bool.and_self]) [↓rules, rules, ↓rulesDp, rulesDq, lit_u64, Int.ofNat_inj, stops, q_int64, q_int, q_bool, q_complex128, hq, wa, wb]
    refine rcall_quiet rfl (ref_Of _ _ _ _) ?_
    rw [ofZ_yes hb ha']
    simp (maxSteps := 1000000) (disch := first | assumption | omega | rfl | decide | simp only [fitsR, Bool.and_self]) [↓rules, rules, ↓rulesDp, rulesDq, lit_u64, Int.ofNat_inj, stops, q_int64, q_int, q_bool, q_complex128]
    refine done_q hdom (Kept.refl hdom) rfl ?_
    simp only [turnI, Int.neg_neg]
    first | rfl | (simp [turnI]; rfl)
theorem q65 (w : BitVec 64) : (w / 65536#64).toNat = w.toNat / 65536 := by rw [BitVec.toNat_udiv]; rfl
theorem r65 (w : BitVec 64) : (w % 65536#64).toNat = w.toNat % 65536 := by rw [BitVec.toNat_umod]; rfl
theorem p65 (w : BitVec 64) : uI (w % 65536#64) = p16 w 0 ∧ uI (w / 65536#64 % 65536#64) = p16 w 1 ∧ uI (w / 65536#64 / 65536#64 % 65536#64) = p16 w 2 ∧ uI (w / 65536#64 / 65536#64 / 65536#64) = p16 w 3 := by
  have hw := w.isLt
  refine ⟨?_, ?_, ?_, ?_⟩ <;> simp only [uI, p16, r65, q65, Nat.reduceMul, Nat.reducePow] <;> omega
theorem ref_Sum {va : Value} {ws : List (BitVec 64)} (hl : ws.length < 4611686018427387904) (g : AMem) (n : Nat) (hv : rdW g va ws) : FnC Try.prog f_reeveref1_Sum [va] g n (fun _ => False) (.tuple #[.int .i64 (spinI (0, 0) ws).1, .int .i64 (spinI (0, 0) ws).2]) g n := by
  refine fnC_of_rwp t_reeveref1_Sum hm rfl fun hdom => ?_
  obtain ⟨a, e', hva⟩ := hv.form
  have hspin := fun k => spin_in (ws.take k) (0, 0) ⟨by decide, by decide⟩ ⟨by decide, by decide⟩
  simp (maxSteps := 1000000) (disch := first | assumption | omega | rfl | decide | simp only [fitsR, Bool.and_self]) [↓rules, rules, ↓rulesDp, rulesDq, lit_u64, Int.ofNat_inj, stops, rc_reeveref1_Sum, q_int64, q_int, q_bool, q_S_uint64, q_uint64]
  refine rwp_loop (fun k l g' n' => ∃ i, k = ws.length - i ∧ i ≤ ws.length ∧ g' = g ∧ n' = n ∧ l = [(0, va), (4, .int .i64 (spinI (0, 0) (ws.take i)).1), (5, .int .i64 (spinI (0, 0) (ws.take i)).2), (6, .int .i64 i)]) ?_ (k := ws.length) ?_
  · rintro j l g' n' ⟨i, rfl, hi, rfl, rfl, rfl⟩
    have hs := hspin i
    simp (maxSteps := 1000000) (disch := first | assumption | omega | rfl | decide | simp only [fitsR, Bool.and_self]) [↓rules, rules, ↓rulesDp, rulesDq, lit_u64, Int.ofNat_inj, stops, rc_reeveref1_Suml0, q_int64, q_int, q_bool, q_S_uint64, q_uint64, hva]
    refine rcond_dec (fun hlt => ?_) (fun hlt => ?_)
    · have hlt : i < ws.length := by omega
      have htake : spinI (0, 0) (ws.take (i + 1)) = stepI (spinI (0, 0) (ws.take i)) ws[i] := by rw [List.take_add_one, List.getElem?_eq_getElem hlt]; exact spin_snoc _ _ _
      obtain ⟨b1, o1, h1, _, h2⟩ := hv.one hlt
      have e1 := h2 g' (Ext.refl _) Try.prog _ ta_uint64
      rw [hva] at h1
      simp only [Value.slice.injEq] at h1
      obtain ⟨rfl, _, rfl⟩ := h1
      generalize hz : spinI (0, 0) (ws.take i) = z at *
      generalize ws[i] = w at *
      have p0 := p16_in w 0; have p1 := p16_in w 1; have p2 := p16_in w 2; have p3 := p16_in w 3
      obtain ⟨c0, c1, c2, c3⟩ := p65 w
      have wk : ∀ k, IntKind.i64.wrap (p16 w k) = p16 w k := fun k => wrap_i64 (by have := p16_in w k; omega) (by have := p16_in w k; omega)
      have v0 : IntKind.i64.wrap (-z.2) = -z.2 := wrap_i64 (by omega) (by omega)
      have v1 : IntKind.i64.wrap (-z.2 + p16 w 0) = -z.2 + p16 w 0 := wrap_i64 (by omega) (by omega)
      have v2 : IntKind.i64.wrap (-z.2 + p16 w 0 - p16 w 2) = -z.2 + (p16 w 0 - p16 w 2) := by rw [wrap_i64 (by omega) (by omega)]; omega
      have v3 : IntKind.i64.wrap (z.1 + p16 w 1) = z.1 + p16 w 1 := wrap_i64 (by omega) (by omega)
      have v4 : IntKind.i64.wrap (z.1 + p16 w 1 - p16 w 3) = z.1 + (p16 w 1 - p16 w 3) := by rw [wrap_i64 (by omega) (by omega)]; omega
      have w2 : IntKind.i64.wrap ((i : Int) + 1) = (i : Int) + 1 := wrap_i64 (by omega) (by omega)
      simp (maxSteps := 1000000) (disch := first | assumption | omega | rfl | decide | simp only [fitsR, Bool.and_self]) [↓rules, rules, ↓rulesDp, rulesDq, lit_u64, Int.ofNat_inj, stops, q_int64, q_int, q_bool, q_S_uint64, q_uint64, e1, hlt, ub_rem, ub_quo, conv_of_u64 tu_uint64 tu_int64, c0, c1, c2, c3, wk, v0, v1, v2]
      refine rcall_quiet rfl (ref_rest _ _ _) ?_
      simp (maxSteps := 1000000) (disch := first | assumption | omega | rfl | decide | simp only [fitsR, Bool.and_self]) [↓rules, rules, ↓rulesDp, rulesDq, lit_u64, Int.ofNat_inj, stops, q_int64, q_int, q_bool, q_S_uint64, q_uint64, ub_rem, ub_quo, conv_of_u64 tu_uint64 tu_int64, c0, c1, c2, c3, wk, v3, v4]
      refine rcall_quiet rfl (ref_rest _ _ _) ?_
      simp (maxSteps := 1000000) (disch := first | assumption | omega | rfl | decide | simp only [fitsR, Bool.and_self]) [↓rules, rules, ↓rulesDp, rulesDq, lit_u64, Int.ofNat_inj, stops, q_int64, q_int, q_bool, q_S_uint64, q_uint64, w2]
      refine ⟨ws.length - (i + 1), by omega, i + 1, rfl, by omega, ?_⟩
      exact ⟨by rw [htake]; rfl, by rw [htake]; rfl, by omega⟩
    · have hik : i = ws.length := by omega
      simp (maxSteps := 1000000) (disch := first | assumption | omega | rfl | decide | simp only [fitsR, Bool.and_self]) [↓rules, rules, ↓rulesDp, rulesDq, lit_u64, Int.ofNat_inj, stops, q_int64, q_int, q_bool, q_S_uint64, q_uint64]
      refine done_q hdom (Kept.refl hdom) rfl ?_
      rw [hik, List.take_length]; rfl
  · exact ⟨0, by simp, by simp, rfl, rfl, by rfl⟩
theorem ref_Spin {va : Value} {ws : List (BitVec 64)} (hl : ws.length < 4611686018427387904) (g : AMem) (n : Nat) (hv : rdW g va ws) : FnC Try.prog f_reeveref1_Spin [va] g n (fun _ => False) (cv (nearF (spinI (0, 0) ws).1) (nearF (spinI (0, 0) ws).2)) g n := by
  refine fnC_of_rwp t_reeveref1_Spin hm rfl fun hdom => ?_
  simp (maxSteps := 1000000) (disch := first | assumption | omega | rfl | decide | simp only [fitsR, Bool.and_self]) [↓rules, rules, ↓rulesDp, rulesDq, lit_u64, Int.ofNat_inj, stops, rc_reeveref1_Spin, q_int64, q_complex128, q_S_uint64, q_uint64, q_float64]
  refine rcall_quiet rfl (ref_Sum hl _ _ hv) ?_
  simp (maxSteps := 1000000) (disch := first | assumption | omega | rfl | decide | simp only [fitsR, Bool.and_self]) [↓rules, rules, ↓rulesDp, rulesDq, lit_u64, Int.ofNat_inj, stops, q_int64, q_complex128, q_S_uint64, q_uint64, q_float64, conv_to_f64 tu_int64 tu_float64, rulesF, rdo_builtin]
  exact done_q hdom (Kept.refl hdom) rfl rfl
theorem word_sum {a b : Int} (ha : 0 ≤ a ∧ a ≤ 4294967295) (hb : 0 ≤ b ∧ b ≤ 4294967295) : BitVec.ofInt 64 b * 4294967296#64 + BitVec.ofInt 64 a = wordI a b := by
  have e1 : (BitVec.ofInt 64 a).toNat = a.toNat := by rw [BitVec.toNat_ofInt]; omega
  have e2 : (BitVec.ofInt 64 b).toNat = b.toNat := by rw [BitVec.toNat_ofInt]; omega
  apply BitVec.eq_of_toNat_eq
  unfold wordI
  rw [BitVec.toNat_or, BitVec.toNat_shiftLeft, BitVec.toNat_add, BitVec.toNat_mul, e1, e2, show (4294967296#64).toNat = 4294967296 from rfl]
  have h1 : b.toNat <<< 32 % 2 ^ 64 = b.toNat <<< 32 := by rw [Nat.shiftLeft_eq]; exact Nat.mod_eq_of_lt (by omega)
  rw [h1, ← Nat.shiftLeft_add_eq_or_of_lt (by omega), Nat.shiftLeft_eq]
  omega
theorem ref_Word {x y : Nat} (hx : okX x) (hy : okX y) (g : AMem) (n : Nat) : FnC Try.prog f_reeveref1_Word [cv x y] g n (fun _ => False) (.tuple #[U (wordZ x y).1, .bool (wordZ x y).2]) g n := by
  refine fnC_of_rwp t_reeveref1_Word hm rfl fun hdom => ?_
  simp (maxSteps := 1000000) (disch := first | assumption | omega | rfl | decide | simp only [fitsR, Bool.and_self]) [↓rules, rules, ↓rulesDp, rulesDq, lit_u64, Int.ofNat_inj, stops, rc_reeveref1_Word, q_int64, q_bool, q_complex128, q_uint64]
  refine rcall_quiet rfl (ref_Parts hx hy _ _) ?_
  unfold wordZ
  cases c1 : (partsZ x y).2.2
  · simp (maxSteps := 1000000) (disch := first | assumption | omega | rfl | decide | simp only [fitsR, Bool.and_self]) [↓rules, rules, ↓rulesDp, rulesDq, lit_u64, Int.ofNat_inj, stops, q_int64, q_bool, q_complex128, q_uint64]
    refine done_q hdom (Kept.refl hdom) rfl ?_
    first | rfl | (simp; rfl)
  generalize (partsZ x y).1 = a at *
  generalize (partsZ x y).2.1 = b at *
  unfold in32
  by_cases c2 : a < 0
  · simp (maxSteps := 1000000) (disch := first | assumption | omega | rfl | decide | simp only [fitsR, Bool.and_self]) [↓rules, rules, ↓rulesDp, rulesDq, lit_u64, Int.ofNat_inj, stops, q_int64, q_bool, q_complex128, q_uint64, c2]
    refine done_q hdom (Kept.refl hdom) rfl ?_
    rw [if_neg (by simp; omega)]; rfl
  by_cases c3 : b < 0
  · simp (maxSteps := 1000000) (disch := first | assumption | omega | rfl | decide | simp only [fitsR, Bool.and_self]) [↓rules, rules, ↓rulesDp, rulesDq, lit_u64, Int.ofNat_inj, stops, q_int64, q_bool, q_complex128, q_uint64, c2, c3]
    refine done_q hdom (Kept.refl hdom) rfl ?_
    rw [if_neg (by simp; omega)]; rfl
  by_cases c4 : 4294967296 ≤ a
  · simp (maxSteps := 1000000) (disch := first | assumption | omega | rfl | decide | simp only [fitsR, Bool.and_self]) [↓rules, rules, ↓rulesDp, rulesDq, lit_u64, Int.ofNat_inj, stops, q_int64, q_bool, q_complex128, q_uint64, c2, c3, c4]
    refine done_q hdom (Kept.refl hdom) rfl ?_
    rw [if_neg (by simp; omega)]; rfl
  by_cases c5 : 4294967296 ≤ b
  · simp (maxSteps := 1000000) (disch := first | assumption | omega | rfl | decide | simp only [fitsR, Bool.and_self]) [↓rules, rules, ↓rulesDp, rulesDq, lit_u64, Int.ofNat_inj, stops, q_int64, q_bool, q_complex128, q_uint64, c2, c3, c4, c5]
    refine done_q hdom (Kept.refl hdom) rfl ?_
    rw [if_neg (by simp; omega)]; rfl
  have hs := word_sum (a := a) (b := b) (by omega) (by omega)
  simp (maxSteps := 1000000) (disch := first | assumption | omega | rfl | decide | simp only [fitsR, Bool.and_self]) [↓rules, rules, ↓rulesDp, rulesDq, lit_u64, Int.ofNat_inj, stops, q_int64, q_bool, q_complex128, q_uint64, c2, c3, c4, c5, conv_to_u64 tu_int64 tu_uint64, hs]
  refine done_q hdom (Kept.refl hdom) rfl ?_
  have hc : (0 ≤ a ∧ a ≤ 4294967295) ∧ 0 ≤ b ∧ b ≤ 4294967295 := by omega
  first | (rw [if_pos hc]; rfl) | (simp [hc]; rfl)
end Go.Proofs.Ytcndbfekcmalmaa.F1

namespace Go.Proofs.Ytcndbfekcmalmaa.F1
open Go Go.Proofs Go.Proofs.YtcndbfekcmalmaaAbs Go.Proofs.YtcndbfekcmalmaaAbs.Flt
set_option maxHeartbeats 4000000
set_option maxRecDepth 100000
def NearZ (x y : Nat) : Prop := ∃ a b : Int, inZ a = true ∧ inZ b = true ∧ x = nearF a ∧ y = nearF b
theorem nearZ_0 : NearZ 0 0 := ⟨0, 0, rfl, rfl, near_zero.symm, near_zero.symm⟩
theorem nearZ_of (a b : Int) : NearZ (ofZ a b).1 (ofZ a b).2.1 := by
  unfold ofZ
  split
  · rename_i h; exact ⟨a, b, h.1, h.2, rfl, rfl⟩
  · exact nearZ_0
theorem nearZ_add (x y u v : Nat) : NearZ (addZ x y u v).1 (addZ x y u v).2.1 := by
  unfold addZ
  split
  · exact nearZ_of _ _
  · exact nearZ_0
theorem nearZ_mul (x y u v : Nat) : NearZ (mulZ x y u v).1 (mulZ x y u v).2.1 := by
  unfold mulZ
  split
  · exact nearZ_of _ _
  · exact nearZ_0
theorem nearZ_turn (x y : Nat) (q : Int) : NearZ (turnZ x y q).1 (turnZ x y q).2 := by
  have i1 := partsZ_in x y
  unfold turnZ
  split
  · have hin := turn_in (k := quarters q) (a := (partsZ x y).1) (b := (partsZ x y).2.1) (decide_eq_true i1.1) (decide_eq_true i1.2)
    exact ⟨_, _, hin.1, hin.2, rfl, rfl⟩
  · exact nearZ_0
theorem nearZ_spin (ws : List (BitVec 64)) : NearZ (nearF (spinI (0, 0) ws).1) (nearF (spinI (0, 0) ws).2) := by
  have s := spin_in ws (0, 0) ⟨by decide, by decide⟩ ⟨by decide, by decide⟩
  exact ⟨_, _, decide_eq_true (by omega), decide_eq_true (by omega), rfl, rfl⟩
theorem same_nz {x y : Nat} (h : NearZ x y) (g : AMem) (n : Nat) : FnC Try.prog f_reevelaw1_same [cv x y, cv x y] g n (fun _ => False) (.bool true) g n := by
  obtain ⟨a, b, ha, hb, rfl, rfl⟩ := h
  exact same_near ha hb g n
theorem GaussSays (a b c d : Nat) (p q k : Int) (va : Value) (ws : List (BitVec 64)) (g : AMem) (n : Nat) (hdom : ∀ i, g i ≠ none → i < n) (oa : okX a) (ob : okX b) (oc : okX c) (od : okX d)
    (_ : -9223372036854775808 ≤ p) (_ : p ≤ 9223372036854775807) (_ : -9223372036854775808 ≤ q) (_ : q ≤ 9223372036854775807) (_ : -9223372036854775808 ≤ k) (_ : k ≤ 9223372036854775807) (hv : rdW g va ws) :
    FnC Try.prog f_reevelaw1_GaussSays [.float .f64 a, .float .f64 b, .float .f64 c, .float .f64 d, .int .i64 p, .int .i64 q, .int .i64 k, va] g n (fun _ => False) (.bool true) g n := by
  refine fnC_of_rwp t_reevelaw1_GaussSays hm rfl fun hdom => ?_
  obtain ⟨pa, ea, hva⟩ := hv.form
  simp (maxSteps := 1000000) (disch := first | assumption | omega | rfl | decide | simp only [fitsR, Bool.and_self]) [↓rules, rules, ↓rulesDp, rulesDq, lit_u64, Int.ofNat_inj, stops, rc_reevelaw1_GaussSays, q_int64, q_int, q_bool, q_complex128, q_S_uint64, q_uint64, q_float64]
  refine rcall_quiet rfl (awake1 _ _) ?_
  by_cases c1 : 200 < (ws.length : Int)
  · simp (maxSteps := 1000000) (disch := first | assumption | omega | rfl | decide | simp only [fitsR, Bool.and_self]) [↓rules, rules, ↓rulesDp, rulesDq, lit_u64, Int.ofNat_inj, stops, q_int64, q_int, q_bool, q_complex128, q_S_uint64, q_uint64, q_float64, hva, c1]
    exact done_q hdom (Kept.refl hdom) rfl rfl
  simp (maxSteps := 1000000) (disch := first | assumption | omega | rfl | decide | simp only [fitsR, Bool.and_self]) [↓rules, rules, ↓rulesDp, rulesDq, lit_u64, Int.ofNat_inj, stops, q_int64, q_int, q_bool, q_complex128, q_S_uint64, q_uint64, q_float64, hva, c1, rulesF, rdo_builtin]
  rw [← hva]
  have hl : ws.length < 4611686018427387904 := by omega
  refine rcall_quiet rfl (gauss_Add oa ob oc od _ _) ?_
  simp (maxSteps := 1000000) (disch := first | assumption | omega | rfl | decide | simp only [fitsR, Bool.and_self]) [↓rules, rules, ↓rulesDp, rulesDq, lit_u64, Int.ofNat_inj, stops, q_int64, q_int, q_bool, q_complex128, q_S_uint64, q_uint64, q_float64]
  refine rcall_quiet rfl (ref_Add oa ob oc od _ _) ?_
  have m1 := nearZ_add a b c d
  generalize addZ a b c d = s at *
  simp (maxSteps := 1000000) (disch := first | assumption | omega | rfl | decide | simp only [fitsR, Bool.and_self]) [↓rules, rules, ↓rulesDp, rulesDq, lit_u64, Int.ofNat_inj, stops, q_int64, q_int, q_bool, q_complex128, q_S_uint64, q_uint64, q_float64]
  refine rcall_quiet rfl (gauss_Mul oa ob oc od _ _) ?_
  simp (maxSteps := 1000000) (disch := first | assumption | omega | rfl | decide | simp only [fitsR, Bool.and_self]) [↓rules, rules, ↓rulesDp, rulesDq, lit_u64, Int.ofNat_inj, stops, q_int64, q_int, q_bool, q_complex128, q_S_uint64, q_uint64, q_float64]
  refine rcall_quiet rfl (ref_Mul oa ob oc od _ _) ?_
  have m2 := nearZ_mul a b c d
  generalize mulZ a b c d = t at *
  simp (maxSteps := 1000000) (disch := first | assumption | omega | rfl | decide | simp only [fitsR, Bool.and_self]) [↓rules, rules, ↓rulesDp, rulesDq, lit_u64, Int.ofNat_inj, stops, q_int64, q_int, q_bool, q_complex128, q_S_uint64, q_uint64, q_float64]
  refine rcall_quiet rfl (gauss_Of p q _ _) ?_
  simp (maxSteps := 1000000) (disch := first | assumption | omega | rfl | decide | simp only [fitsR, Bool.and_self]) [↓rules, rules, ↓rulesDp, rulesDq, lit_u64, Int.ofNat_inj, stops, q_int64, q_int, q_bool, q_complex128, q_S_uint64, q_uint64, q_float64]
  refine rcall_quiet rfl (ref_Of p q _ _) ?_
  have m3 := nearZ_of p q
  generalize ofZ p q = o at *
  simp (maxSteps := 1000000) (disch := first | assumption | omega | rfl | decide | simp only [fitsR, Bool.and_self]) [↓rules, rules, ↓rulesDp, rulesDq, lit_u64, Int.ofNat_inj, stops, q_int64, q_int, q_bool, q_complex128, q_S_uint64, q_uint64, q_float64]
  refine rcall_quiet rfl (gauss_Parts oa ob _ _) ?_
  simp (maxSteps := 1000000) (disch := first | assumption | omega | rfl | decide | simp only [fitsR, Bool.and_self]) [↓rules, rules, ↓rulesDp, rulesDq, lit_u64, Int.ofNat_inj, stops, q_int64, q_int, q_bool, q_complex128, q_S_uint64, q_uint64, q_float64]
  refine rcall_quiet rfl (ref_Parts oa ob _ _) ?_
  simp (maxSteps := 1000000) (disch := first | assumption | omega | rfl | decide | simp only [fitsR, Bool.and_self]) [↓rules, rules, ↓rulesDp, rulesDq, lit_u64, Int.ofNat_inj, stops, q_int64, q_int, q_bool, q_complex128, q_S_uint64, q_uint64, q_float64]
  refine rcall_quiet rfl (gauss_Word oa ob _ _) ?_
  simp (maxSteps := 1000000) (disch := first | assumption | omega | rfl | decide | simp only [fitsR, Bool.and_self]) [↓rules, rules, ↓rulesDp, rulesDq, lit_u64, Int.ofNat_inj, stops, q_int64, q_int, q_bool, q_complex128, q_S_uint64, q_uint64, q_float64]
  refine rcall_quiet rfl (ref_Word oa ob _ _) ?_
  have beq : ∀ x : Bool, (x == x) = true := fun x => by cases x <;> rfl
  simp (maxSteps := 1000000) (disch := first | assumption | omega | rfl | decide | simp only [fitsR, Bool.and_self]) [↓rules, rules, ↓rulesDp, rulesDq, lit_u64, Int.ofNat_inj, stops, q_int64, q_int, q_bool, q_complex128, q_S_uint64, q_uint64, q_float64, bin_eql_bool tu_bool, beq]
  refine rcall_quiet rfl (same_nz m1 _ _) ?_
  simp (maxSteps := 1000000) (disch := first | assumption | omega | rfl | decide | simp only [fitsR, Bool.and_self]) [↓rules, rules, ↓rulesDp, rulesDq, lit_u64, Int.ofNat_inj, stops, q_int64, q_int, q_bool, q_complex128, q_S_uint64, q_uint64, q_float64, bin_eql_bool tu_bool, beq]
  refine rcall_quiet rfl (same_nz m2 _ _) ?_
  simp (maxSteps := 1000000) (disch := first | assumption | omega | rfl | decide | simp only [fitsR, Bool.and_self]) [↓rules, rules, ↓rulesDp, rulesDq, lit_u64, Int.ofNat_inj, stops, q_int64, q_int, q_bool, q_complex128, q_S_uint64, q_uint64, q_float64, bin_eql_bool tu_bool, beq]
  refine rcall_quiet rfl (same_nz m3 _ _) ?_
  simp (maxSteps := 1000000) (disch := first | assumption | omega | rfl | decide | simp only [fitsR, Bool.and_self]) [↓rules, rules, ↓rulesDp, rulesDq, lit_u64, Int.ofNat_inj, stops, q_int64, q_int, q_bool, q_complex128, q_S_uint64, q_uint64, q_float64, bin_eql_bool tu_bool, beq]
  refine rcall_quiet rfl (gauss_Whole oa ob _ _) ?_
  simp (maxSteps := 1000000) (disch := first | assumption | omega | rfl | decide | simp only [fitsR, Bool.and_self]) [↓rules, rules, ↓rulesDp, rulesDq, lit_u64, Int.ofNat_inj, stops, q_int64, q_int, q_bool, q_complex128, q_S_uint64, q_uint64, q_float64, bin_eql_bool tu_bool, beq]
  refine rcall_quiet rfl (gauss_Turn oa ob _ _ _) ?_
  simp (maxSteps := 1000000) (disch := first | assumption | omega | rfl | decide | simp only [fitsR, Bool.and_self]) [↓rules, rules, ↓rulesDp, rulesDq, lit_u64, Int.ofNat_inj, stops, q_int64, q_int, q_bool, q_complex128, q_S_uint64, q_uint64, q_float64]
  refine rcall_quiet rfl (ref_Turn oa ob _ _ _) ?_
  simp (maxSteps := 1000000) (disch := first | assumption | omega | rfl | decide | simp only [fitsR, Bool.and_self]) [↓rules, rules, ↓rulesDp, rulesDq, lit_u64, Int.ofNat_inj, stops, q_int64, q_int, q_bool, q_complex128, q_S_uint64, q_uint64, q_float64]
  refine rcall_quiet rfl (same_nz (nearZ_turn _ _ _) _ _) ?_
  simp (maxSteps := 1000000) (disch := first | assumption | omega | rfl | decide | simp only [fitsR, Bool.and_self]) [↓rules, rules, ↓rulesDp, rulesDq, lit_u64, Int.ofNat_inj, stops, q_int64, q_int, q_bool, q_complex128, q_S_uint64, q_uint64, q_float64]
  refine rcall_quiet rfl (gauss_Norm oa ob _ _) ?_
  simp (maxSteps := 1000000) (disch := first | assumption | omega | rfl | decide | simp only [fitsR, Bool.and_self]) [↓rules, rules, ↓rulesDp, rulesDq, lit_u64, Int.ofNat_inj, stops, q_int64, q_int, q_bool, q_complex128, q_S_uint64, q_uint64, q_float64]
  refine rcall_quiet rfl (ref_Norm oa ob _ _) ?_
  simp (maxSteps := 1000000) (disch := first | assumption | omega | rfl | decide | simp only [fitsR, Bool.and_self]) [↓rules, rules, ↓rulesDp, rulesDq, lit_u64, Int.ofNat_inj, stops, q_int64, q_int, q_bool, q_complex128, q_S_uint64, q_uint64, q_float64]
  refine rcall_quiet rfl (gauss_Spin hl _ _ hv) ?_
  simp (maxSteps := 1000000) (disch := first | assumption | omega | rfl | decide | simp only [fitsR, Bool.and_self]) [↓rules, rules, ↓rulesDp, rulesDq, lit_u64, Int.ofNat_inj, stops, q_int64, q_int, q_bool, q_complex128, q_S_uint64, q_uint64, q_float64]
  refine rcall_quiet rfl (ref_Spin hl _ _ hv) ?_
  simp (maxSteps := 1000000) (disch := first | assumption | omega | rfl | decide | simp only [fitsR, Bool.and_self]) [↓rules, rules, ↓rulesDp, rulesDq, lit_u64, Int.ofNat_inj, stops, q_int64, q_int, q_bool, q_complex128, q_S_uint64, q_uint64, q_float64]
  refine rcall_quiet rfl (same_nz (nearZ_spin _) _ _) ?_
  simp (maxSteps := 1000000) (disch := first | assumption | omega | rfl | decide | simp only [fitsR, Bool.and_self]) [↓rules, rules, ↓rulesDp, rulesDq, lit_u64, Int.ofNat_inj, stops, q_int64, q_int, q_bool, q_complex128, q_S_uint64, q_uint64, q_float64]
  exact done_q hdom (Kept.refl hdom) rfl rfl
end Go.Proofs.Ytcndbfekcmalmaa.F1
