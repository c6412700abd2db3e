/- Contracts of functions: what each one returns, and what it leaves. No statement is proved here. -/
import Derived.Test.YtcndbfekcmalmaaP1a
set_option linter.unusedVariables false
set_option linter.unusedSimpArgs false
namespace Go.Proofs.Ytcndbfekcmalmaa.F1
open Go Go.Proofs Go.Proofs.YtcndbfekcmalmaaAbs Go.Proofs.YtcndbfekcmalmaaAbs.Flt
set_option maxHeartbeats 4000000
set_option maxRecDepth 100000
theorem awake1_run : xfnE Try.prog tab ext 100 20 f_reevelaw1_awake [] (fun _ => none) 0 = some ⟨.bool true, fun _ => none, 0, 0, true⟩ := by kernel_rfl
theorem awake1 (g : AMem) (n : Nat) : FnC Try.prog f_reevelaw1_awake [] g n (fun _ => False) (.bool true) g n :=
  FnC.closed (xfnE_ok hm tabOk extOk 100 20 _ _ _ _ _ (fun _ h => absurd rfl h) awake1_run).2.1 rfl rfl g n
theorem same_eq {a : Int} (ha : inZ a = true) : eqF (nearF a) (nearF a) = true := by
  have h := of_decide_eq_true ha
  rw [eq_near_near (by omega) (by omega)]; simp
theorem near_eq {a b : Int} (ha : inZ a = true) (hb : inZ b = true) : eqF (nearF a) (nearF b) = decide (a = b) := by
  have h := of_decide_eq_true ha
  have h' := of_decide_eq_true hb
  rw [eq_near_near (by omega) (by omega)]
theorem near_nil {a : Int} (ha : inZ a = true) (h0 : a ≠ 0) : eqF (nearF a) 0 = false := by
  have h := near_eq ha (b := 0) rfl
  rw [near_zero] at h
  rw [h, decide_eq_false h0]
theorem nil_nil : eqF 0 0 = true := by decide
theorem div_nil : D.div 4607182418800017408 0 = some 9218868437227405312 := by decide
theorem inf_inf : eqF 9218868437227405312 9218868437227405312 = true := by decide
theorem same_near {a b : Int} (ha : inZ a = true) (hb : inZ b = true) (g : AMem) (n : Nat) : FnC Try.prog f_reevelaw1_same [cv (nearF a) (nearF b), cv (nearF a) (nearF b)] g n (fun _ => False) (.bool true) g n := by
  refine fnC_of_rwp t_reevelaw1_same hm rfl fun hdom => ?_
  have e1 := same_eq ha
  have e2 := same_eq hb
  by_cases c1 : a = 0
  · subst c1
    rw [near_zero] at e1 ⊢
    by_cases c2 : b = 0
    · subst c2
      rw [near_zero]
      simp (maxSteps := 1000000) (disch := first | assumption | omega | rfl | decide | simp only [fitsR, Bool.and_self]) [↓rules, rules, ↓rulesDp, rulesDq, lit_u64, Int.ofNat_inj, stops, rc_reevelaw1_same, q_bool, q_complex128, q_float64, rulesF, rdo_builtin, nil_nil, fb_quo div_nil, inf_inf]
      exact done_q hdom (Kept.refl hdom) rfl rfl
    · have n2 := near_nil hb c2
      simp (maxSteps := 1000000) (disch := first | assumption | omega | rfl | decide | simp only [fitsR, Bool.and_self]) [↓rules, rules, ↓rulesDp, rulesDq, lit_u64, Int.ofNat_inj, stops, rc_reevelaw1_same, q_bool, q_complex128, q_float64, rulesF, rdo_builtin, nil_nil, fb_quo div_nil, inf_inf, n2, e2]
      exact done_q hdom (Kept.refl hdom) rfl rfl
  have n1 := near_nil ha c1
  by_cases c2 : b = 0
  · subst c2
    rw [near_zero]
    simp (maxSteps := 1000000) (disch := first | assumption | omega | rfl | decide | simp only [fitsR, Bool.and_self]) [↓rules, rules, ↓rulesDp, rulesDq, lit_u64, Int.ofNat_inj, stops, rc_reevelaw1_same, q_bool, q_complex128, q_float64, rulesF, rdo_builtin, nil_nil, fb_quo div_nil, inf_inf, n1, e1]
    exact done_q hdom (Kept.refl hdom) rfl rfl
  have n2 := near_nil hb c2
  simp (maxSteps := 1000000) (disch := first | assumption | omega | rfl | decide | simp only [fitsR, Bool.and_self]) [↓rules, rules, ↓rulesDp, rulesDq, lit_u64, Int.ofNat_inj, stops, rc_reevelaw1_same, q_bool, q_complex128, q_float64, rulesF, rdo_builtin, n1, n2, e1, e2]
  exact done_q hdom (Kept.refl hdom) rfl rfl
theorem law_rest (v : Int) (g : AMem) (n : Nat) : FnC Try.prog f_reevelaw1_rest [.int .i64 v] g n (fun _ => False) (.int .i64 (restI v)) g n := by
  refine fnC_of_rwp t_reevelaw1_rest hm rfl fun hdom => ?_
  have h1 := Int.tmod_lt_of_pos v (show (0:Int) < 1000003 by decide)
  have h2 := Int.lt_tmod_of_pos v (show (0:Int) < 1000003 by decide)
  have e := tmod_rest v 1000003 (by decide)
  have w : IntKind.i64.wrap (v.tmod 1000003 + 1000003) = v.tmod 1000003 + 1000003 := wrap_i64 (by omega) (by omega)
  unfold restI
  simp (maxSteps := 1000000) (disch := first | assumption | omega | rfl | decide | simp only [fitsR, Bool.and_self]) [↓rules, rules, ↓rulesDp, rulesDq, lit_u64, Int.ofNat_inj, stops, rc_reevelaw1_rest, q_int64, bin_rem, w, e]
  exact done_q hdom (Kept.refl hdom) rfl rfl
theorem ofZ_yes {a b : Int} (ha : inZ a = true) (hb : inZ b = true) : ofZ a b = (nearF a, nearF b, true) := by unfold ofZ; rw [if_pos ⟨ha, hb⟩]
theorem ofZ_no {a b : Int} (h : ¬ (inZ a = true ∧ inZ b = true)) : ofZ a b = (0, 0, false) := by unfold ofZ; rw [if_neg h]
theorem inZ_ok {a : Int} (ha : inZ a = true) : okX (nearF a) := by have h := of_decide_eq_true ha; exact near_lt _ (by omega)
theorem near_i : nearF 0 = 0 ∧ nearF 1 = 4607182418800017408 := by decide
theorem GaussTurns (a b p q : Int) (g : AMem) (n : Nat) (hdom : ∀ i, g i ≠ none → i < n) (_ : -9223372036854775808 ≤ a) (_ : a ≤ 9223372036854775807) (_ : -9223372036854775808 ≤ b) (_ : b ≤ 9223372036854775807) (_ : -9223372036854775808 ≤ p) (_ : p ≤ 9223372036854775807) (_ : -9223372036854775808 ≤ q) (_ : q ≤ 9223372036854775807) :
    FnC Try.prog f_reevelaw1_GaussTurns [.int .i64 a, .int .i64 b, .int .i64 p, .int .i64 q] g n (fun _ => False) (.bool true) g n := by
  refine fnC_of_rwp t_reevelaw1_GaussTurns hm rfl fun hdom => ?_
  simp (maxSteps := 1000000) (disch := first | assumption | omega | rfl | decide | simp only [fitsR, Bool.and_self]) [↓rules, rules, ↓rulesDp, rulesDq, lit_u64, Int.ofNat_inj, stops, rc_reevelaw1_GaussTurns, q_int64, q_int, q_bool, q_complex128]
  refine rcall_quiet rfl (awake1 _ _) ?_
  simp (maxSteps := 1000000) (disch := first | assumption | omega | rfl | decide | simp only [fitsR, Bool.and_self]) [↓rules, rules, ↓rulesDp, rulesDq, lit_u64, Int.ofNat_inj, stops, q_int64, q_int, q_bool, q_complex128]
  refine rcall_quiet rfl (gauss_Of _ _ _ _) ?_
  by_cases c1 : inZ a = true ∧ inZ b = true
  case neg =>
    rw [ofZ_no c1]
    simp (maxSteps := 1000000) (disch := first | assumption | omega | rfl | decide | simp only [fitsR, Bool.and_self]) [↓rules, rules, ↓rulesDp, rulesDq, lit_u64, Int.ofNat_inj, stops, q_int64, q_int, q_bool, q_complex128]
    exact done_q hdom (Kept.refl hdom) rfl rfl
  obtain ⟨ha, hb⟩ := c1
  rw [ofZ_yes ha hb]
  by_cases c2 : 1099511627776 < p
  · simp (maxSteps := 1000000) (disch := first | assumption | omega | rfl | decide | simp only [fitsR, Bool.and_self]) [↓rules, rules, ↓rulesDp, rulesDq, lit_u64, Int.ofNat_inj, stops, q_int64, q_int, q_bool, q_complex128, c2]
    exact done_q hdom (Kept.refl hdom) rfl rfl
  by_cases c3 : p < -1099511627776
  · simp (maxSteps := 1000000) (disch := first | assumption | omega | rfl | decide | simp only [fitsR, Bool.and_self]) [↓rules, rules, ↓rulesDp, rulesDq, lit_u64, Int.ofNat_inj, stops, q_int64, q_int, q_bool, q_complex128, c2, c3]
    exact done_q hdom (Kept.refl hdom) rfl rfl
  by_cases c4 : 1099511627776 < q
  · simp (maxSteps := 1000000) (disch := first | assumption | omega | rfl | decide | simp only [fitsR, Bool.and_self]) [↓rules, rules, ↓rulesDp, rulesDq, lit_u64, Int.ofNat_inj, stops, q_int64, q_int, q_bool, q_complex128, c2, c3, c4]
    exact done_q hdom (Kept.refl hdom) rfl rfl
  by_cases c5 : q < -1099511627776
  · simp (maxSteps := 1000000) (disch := first | assumption | omega | rfl | decide | simp only [fitsR, Bool.and_self]) [↓rules, rules, ↓rulesDp, rulesDq, lit_u64, Int.ofNat_inj, stops, q_int64, q_int, q_bool, q_complex128, c2, c3, c4, c5]
    exact done_q hdom (Kept.refl hdom) rfl rfl
  simp (maxSteps := 1000000) (disch := first | assumption | omega | rfl | decide | simp only [fitsR, Bool.and_self]) [↓rules, rules, ↓rulesDp, rulesDq, lit_u64, Int.ofNat_inj, stops, q_int64, q_int, q_bool, q_complex128, c2, c3, c4, c5]
  have oa := inZ_ok ha
  have ob := inZ_ok hb
  refine rcall_quiet rfl (gauss_Turn oa ob _ _ _) ?_
  rw [turnZ_near ha hb, show quarters 1 = 1 from rfl]
  simp only [turnI]
  simp (maxSteps := 1000000) (disch := first | assumption | omega | rfl | decide | simp only [fitsR, Bool.and_self]) [↓rules, rules, ↓rulesDp, rulesDq, lit_u64, Int.ofNat_inj, stops, q_int64, q_int, q_bool, q_complex128]
  refine rcall_quiet rfl (gauss_Mul oa ob (u := 0) (v := 4607182418800017408) (by decide) (by decide) _ _) ?_
  have hb' : inZ (-b) = true := by have := of_decide_eq_true hb; exact decide_eq_true (by omega)
  have hmul : mulZ (nearF a) (nearF b) 0 4607182418800017408 = (if smallZ a b = true then (nearF (-b), nearF a, true) else (0, 0, false)) := by
    have h01 : partsZ 0 4607182418800017408 = (0, 1, true) := by
      have := partsZ_near (a := 0) (b := 1) rfl rfl
      rwa [near_i.1, near_i.2] at this
    unfold mulZ
    rw [partsZ_near ha hb, h01]
    by_cases c : smallZ a b = true
    · rw [if_pos c, if_pos ⟨rfl, rfl, c, by decide⟩]
      simp only [mulI]
      rw [ofZ_yes] <;> simp [hb', ha]
    · rw [if_neg c, if_neg (fun h => c h.2.2.1)]
  rw [hmul]
  have w1 : IntKind.i64.wrap (p + q) = p + q := wrap_i64 (by omega) (by omega)
  simp (maxSteps := 1000000) (disch := first | assumption | omega | rfl | decide | simp only [fitsR, Bool.and_self]) [↓rules, rules, ↓rulesDp, rulesDq, lit_u64, Int.ofNat_inj, stops, q_int64, q_int, q_bool, q_complex128]
  refine rcall_quiet rfl (gauss_Turn oa ob _ _ _) ?_
  rw [turnZ_near ha hb, show quarters 4 = 0 from rfl]
  simp only [turnI]
  simp (maxSteps := 1000000) (disch := first | assumption | omega | rfl | decide | simp only [fitsR, Bool.and_self]) [↓rules, rules, ↓rulesDp, rulesDq, lit_u64, Int.ofNat_inj, stops, q_int64, q_int, q_bool, q_complex128]
  refine rcall_quiet rfl (same_near ha hb _ _) ?_
  simp (maxSteps := 1000000) (disch := first | assumption | omega | rfl | decide | simp only [fitsR, Bool.and_self]) [↓rules, rules, ↓rulesDp, rulesDq, lit_u64, Int.ofNat_inj, stops, q_int64, q_int, q_bool, q_complex128]
  refine rcall_quiet rfl (gauss_Turn oa ob _ _ _) ?_
  rw [turnZ_near ha hb]
  obtain ⟨t1, t2⟩ := turn_in (k := quarters p) ha hb
  simp (maxSteps := 1000000) (disch := first | assumption | omega | rfl | decide | simp only [fitsR, Bool.and_self]) [↓rules, rules, ↓rulesDp, rulesDq, lit_u64, Int.ofNat_inj, stops, q_int64, q_int, q_bool, q_complex128]
  refine rcall_quiet rfl (gauss_Turn (inZ_ok t1) (inZ_ok t2) _ _ _) ?_
  rw [turnZ_near t1 t2, turn_quarters]
  simp (maxSteps := 1000000) (disch := first | assumption | omega | rfl | decide | simp only [fitsR, Bool.and_self]) [↓rules, rules, ↓rulesDp, rulesDq, lit_u64, Int.ofNat_inj, stops, q_int64, q_int, q_bool, q_complex128, w1]
  refine rcall_quiet rfl (gauss_Turn oa ob _ _ _) ?_
  rw [turnZ_near ha hb]
  obtain ⟨t3, t4⟩ := turn_in (k := quarters (p + q)) ha hb
  simp (maxSteps := 1000000) (disch := first | assumption | omega | rfl | decide | simp only [fitsR, Bool.and_self]) [↓rules, rules, ↓rulesDp, rulesDq, lit_u64, Int.ofNat_inj, stops, q_int64, q_int, q_bool, q_complex128]
  refine rcall_quiet rfl (same_near t3 t4 _ _) ?_
  have e1 := same_eq hb'
  have e2 := same_eq ha
  by_cases c : smallZ a b = true
  · rw [if_pos c]
    simp (maxSteps := 1000000) (disch := first | assumption | omega | rfl | decide | simp only [fitsR, Bool.and_self]) [↓rules, rules, ↓rulesDp, rulesDq, lit_u64, Int.ofNat_inj, stops, q_int64, q_int, q_bool, q_complex128, rulesF, e1, e2]
    refine rcall_quiet rfl (gauss_Whole (inZ_ok hb') oa _ _) ?_
    rw [partsZ_near hb' ha]
    simp (maxSteps := 1000000) (disch := first | assumption | omega | rfl | decide | simp only [fitsR, Bool.and_self]) [↓rules, rules, ↓rulesDp, rulesDq, lit_u64, Int.ofNat_inj, stops, q_int64, q_int, q_bool, q_complex128]
    exact done_q hdom (Kept.refl hdom) rfl rfl
  · rw [if_neg c]
    simp (maxSteps := 1000000) (disch := first | assumption | omega | rfl | decide | simp only [fitsR, Bool.and_self]) [↓rules, rules, ↓rulesDp, rulesDq, lit_u64, Int.ofNat_inj, stops, q_int64, q_int, q_bool, q_complex128, rulesF, e1, e2]
    refine rcall_quiet rfl (gauss_Whole (inZ_ok hb') oa _ _) ?_
    rw [partsZ_near hb' ha]
    simp (maxSteps := 1000000) (disch := first | assumption | omega | rfl | decide | simp only [fitsR, Bool.and_self]) [↓rules, rules, ↓rulesDp, rulesDq, lit_u64, Int.ofNat_inj, stops, q_int64, q_int, q_bool, q_complex128]
    exact done_q hdom (Kept.refl hdom) rfl rfl
theorem in32_inZ {a : Int} (h : in32 a = true) : inZ a = true := by
  have := of_decide_eq_true h
  exact decide_eq_true (by omega)
theorem GaussWords (a b : Int) (g : AMem) (n : Nat) (hdom : ∀ i, g i ≠ none → i < n) (h1 : 0 ≤ a) (h2 : a ≤ 4294967295) (h3 : 0 ≤ b) (h4 : b ≤ 4294967295) :
    FnC Try.prog f_reevelaw1_GaussWords [.int .u32 a, .int .u32 b] g n (fun _ => False) (.bool true) g n := by
  refine fnC_of_rwp t_reevelaw1_GaussWords hm rfl fun hdom => ?_
  have ia : in32 a = true := decide_eq_true ⟨h1, h2⟩
  have ib : in32 b = true := decide_eq_true ⟨h3, h4⟩
  have ha := in32_inZ ia
  have hb := in32_inZ ib
  have wa : IntKind.i64.wrap a = a := wrap_i64 (by omega) (by omega)
  have wb : IntKind.i64.wrap b = b := wrap_i64 (by omega) (by omega)
  have oa := inZ_ok ha
  have ob := inZ_ok hb
  simp (maxSteps := 1000000) (disch := first | assumption | omega | rfl | decide | simp only [fitsR, Bool.and_self]) [↓rules, rules, ↓rulesDp, rulesDq, lit_u64, Int.ofNat_inj, stops, rc_reevelaw1_GaussWords, q_int64, q_bool, q_complex128, q_uint64, q_uint32]
  refine rcall_quiet rfl (awake1 _ _) ?_
  simp (maxSteps := 1000000) (disch := first | assumption | omega | rfl | decide | simp only [fitsR, Bool.and_self]) [↓rules, rules, ↓rulesDp, rulesDq, lit_u64, Int.ofNat_inj, stops, q_int64, q_bool, q_complex128, q_uint64, q_uint32, conv_int tu_uint32 tu_int64, wa, wb]
  refine rcall_quiet rfl (gauss_Of _ _ _ _) ?_
  rw [ofZ_yes ha hb]
  simp (maxSteps := 1000000) (disch := first | assumption | omega | rfl | decide | simp only [fitsR, Bool.and_self]) [↓rules, rules, ↓rulesDp, rulesDq, lit_u64, Int.ofNat_inj, stops, q_int64, q_bool, q_complex128, q_uint64, q_uint32]
  refine rcall_quiet rfl (gauss_Word oa ob _ _) ?_
  have hw : wordZ (nearF a) (nearF b) = (wordI a b, true) := by
    unfold wordZ
    rw [partsZ_near ha hb, if_pos ⟨rfl, ia, ib⟩]
  rw [hw]
  simp (maxSteps := 1000000) (disch := first | assumption | omega | rfl | decide | simp only [fitsR, Bool.and_self]) [↓rules, rules, ↓rulesDp, rulesDq, lit_u64, Int.ofNat_inj, stops, q_int64, q_bool, q_complex128, q_uint64, q_uint32]
  refine rcall_quiet rfl (gauss_Parts oa ob _ _) ?_
  rw [partsZ_near ha hb]
  unfold wordI
  simp (maxSteps := 1000000) (disch := first | assumption | omega | rfl | decide | simp only [fitsR, Bool.and_self]) [↓rules, rules, ↓rulesDp, rulesDq, lit_u64, Int.ofNat_inj, stops, q_int64, q_bool, q_complex128, q_uint64, q_uint32, conv_int tu_uint32 tu_int64, conv_to_u64 tu_uint32 tu_uint64, wa, wb]
  exact done_q hdom (Kept.refl hdom) rfl rfl
end Go.Proofs.Ytcndbfekcmalmaa.F1

namespace Go.Proofs.Ytcndbfekcmalmaa.F1
open Go Go.Proofs Go.Proofs.YtcndbfekcmalmaaAbs Go.Proofs.YtcndbfekcmalmaaAbs.Flt
set_option maxHeartbeats 4000000
set_option maxRecDepth 100000
theorem cellOkU (ws : List (BitVec 64)) : (ws.map U).all cellOk = true := by
  induction ws with
  | nil => rfl
  | cons w ws ih => simp [ih, U_cellOk]
theorem GaussLong (va : Value) (xs : List (BitVec 64)) (vb : Value) (ys : List (BitVec 64)) (g : AMem) (n : Nat) (hdom : ∀ i, g i ≠ none → i < n) (ha : rdW g va xs) (hb : rdW g vb ys) :
    FnC Try.prog f_reevelaw1_GaussLong [va, vb] g n (fun _ => False) (.bool true) g n := by
  refine fnC_of_rwp t_reevelaw1_GaussLong hm rfl fun hdom => ?_
  obtain ⟨pa, ea, hva⟩ := ha.form
  obtain ⟨pb, eb, hvb⟩ := hb.form
  simp (maxSteps := 1000000) (disch := first | assumption | omega | rfl | decide | simp only [fitsR, Bool.and_self]) [↓rules, rules, ↓rulesDp, rulesDq, lit_u64, Int.ofNat_inj, stops, rc_reevelaw1_GaussLong, q_int64, q_int, q_bool, q_complex128, q_S_uint64, q_uint64]
  refine rcall_quiet rfl (awake1 _ _) ?_
  by_cases c1 : 60 < (xs.length : Int)
  · simp (maxSteps := 1000000) (disch := first | assumption | omega | rfl | decide | simp only [fitsR, Bool.and_self]) [↓rules, rules, ↓rulesDp, rulesDq, lit_u64, Int.ofNat_inj, stops, q_int64, q_int, q_bool, q_complex128, q_S_uint64, q_uint64, hva, c1]
    exact done_q hdom (Kept.refl hdom) rfl rfl
  by_cases c2 : 60 < (ys.length : Int)
  · simp (maxSteps := 1000000) (disch := first | assumption | omega | rfl | decide | simp only [fitsR, Bool.and_self]) [↓rules, rules, ↓rulesDp, rulesDq, lit_u64, Int.ofNat_inj, stops, q_int64, q_int, q_bool, q_complex128, q_S_uint64, q_uint64, hva, hvb, c1, c2]
    exact done_q hdom (Kept.refl hdom) rfl rfl
  simp (maxSteps := 1000000) (disch := first | assumption | omega | rfl | decide | simp only [fitsR, Bool.and_self]) [↓rules, rules, ↓rulesDp, rulesDq, lit_u64, Int.ofNat_inj, stops, q_int64, q_int, q_bool, q_complex128, q_S_uint64, q_uint64, hva, hvb, c1, c2]
  rw [← hva, ← hvb]
  refine rcall_quiet rfl (gauss_Spin (by omega) _ _ ha) ?_
  have sx := spin_in xs (0, 0) ⟨by decide, by decide⟩ ⟨by decide, by decide⟩
  have sy := spin_in ys (0, 0) ⟨by decide, by decide⟩ ⟨by decide, by decide⟩
  have key := spin_long ys (spinI (0, 0) xs) sx.1 sx.2
  rw [← spin_app] at key
  have ix1 : inZ (spinI (0, 0) xs).1 = true := decide_eq_true (by omega)
  have ix2 : inZ (spinI (0, 0) xs).2 = true := decide_eq_true (by omega)
  have iy1 : inZ (spinI (0, 0) ys).1 = true := decide_eq_true (by omega)
  have iy2 : inZ (spinI (0, 0) ys).2 = true := decide_eq_true (by omega)
  simp (maxSteps := 1000000) (disch := first | assumption | omega | rfl | decide | simp only [fitsR, Bool.and_self]) [↓rules, rules, ↓rulesDp, rulesDq, lit_u64, Int.ofNat_inj, stops, q_int64, q_int, q_bool, q_complex128, q_S_uint64, q_uint64, hva, hvb]
  rw [← hva, ← hvb]
  refine rcall_quiet rfl (gauss_Turn (inZ_ok ix1) (inZ_ok ix2) _ _ _) ?_
  rw [turnZ_near ix1 ix2]
  have hq : turnI (quarters (ys.length : Int)) ((spinI (0, 0) xs).1, (spinI (0, 0) xs).2) = turnI ys.length (spinI (0, 0) xs) := by
    have : quarters (ys.length : Int) = ys.length % 4 := by unfold quarters; omega
    rw [this, turn_mod]
  obtain ⟨it1, it2⟩ := turn_in (k := ys.length) (a := (spinI (0, 0) xs).1) (b := (spinI (0, 0) xs).2) ix1 ix2
  rw [hq]
  have hpe : ((spinI (0, 0) xs).1, (spinI (0, 0) xs).2) = spinI (0, 0) xs := rfl
  rw [hpe] at it1 it2
  generalize turnI ys.length (spinI (0, 0) xs) = tt at *
  have nt1 := of_decide_eq_true it1
  have nt2 := of_decide_eq_true it2
  simp (maxSteps := 1000000) (disch := first | assumption | omega | rfl | decide | simp only [fitsR, Bool.and_self]) [↓rules, rules, ↓rulesDp, rulesDq, lit_u64, Int.ofNat_inj, stops, q_int64, q_int, q_bool, q_complex128, q_S_uint64, q_uint64]
  refine rcall_quiet rfl (gauss_Parts (inZ_ok it1) (inZ_ok it2) _ _) ?_
  rw [partsZ_near it1 it2]
  simp (maxSteps := 1000000) (disch := first | assumption | omega | rfl | decide | simp only [fitsR, Bool.and_self]) [↓rules, rules, ↓rulesDp, rulesDq, lit_u64, Int.ofNat_inj, stops, q_int64, q_int, q_bool, q_complex128, q_S_uint64, q_uint64]
  refine rcall_quiet rfl (gauss_Spin (by omega) _ _ hb) ?_
  simp (maxSteps := 1000000) (disch := first | assumption | omega | rfl | decide | simp only [fitsR, Bool.and_self]) [↓rules, rules, ↓rulesDp, rulesDq, lit_u64, Int.ofNat_inj, stops, q_int64, q_int, q_bool, q_complex128, q_S_uint64, q_uint64]
  refine rcall_quiet rfl (gauss_Parts (inZ_ok iy1) (inZ_ok iy2) _ _) ?_
  rw [partsZ_near iy1 iy2]
  simp (maxSteps := 1000000) (disch := first | assumption | omega | rfl | decide | simp only [fitsR, Bool.and_self]) [↓rules, rules, ↓rulesDp, rulesDq, lit_u64, Int.ofNat_inj, stops, q_int64, q_int, q_bool, q_complex128, q_S_uint64, q_uint64]
  have k0 : Kept g n (gset g n (some (.row [] true))) (n + 1) := (by repeat first | exact Kept.refl hdom | refine Kept.new ?_ _ | refine Kept.drop ?_ (by omega) | refine Kept.put ?_ (by omega) (by omega) _ | refine Kept.skip ?_)
  have e1 := rd_read (ha.ext (k0.ext hdom))
  rw [flatMap_one] at e1
  have ok1 := cellOkU xs
  have ok2 := cellOkU ys
  have w1 : IntKind.i64.wrap (tt.1 + (spinI (0, 0) ys).1) = tt.1 + (spinI (0, 0) ys).1 := wrap_i64 (by omega) (by omega)
  have w2 : IntKind.i64.wrap (tt.2 + (spinI (0, 0) ys).2) = tt.2 + (spinI (0, 0) ys).2 := wrap_i64 (by omega) (by omega)
  have k1 := congrArg Prod.fst key
  have k2 := congrArg Prod.snd key
  simp only at k1 k2
  have k1 := k1.symm
  have k2 := k2.symm
  have lx : xs.length ≤ 60 := by omega
  have ly : ys.length ≤ 60 := by omega
  have one : ∀ x : BitVec 64, [U x].length = 1 := fun _ => rfl
  by_cases z1 : xs = []
  · subst z1
    simp only [List.length_nil, List.map_nil] at e1
    rw [List.nil_append] at k1 k2
    have e2 := rd_read (hb.ext (k0.ext hdom))
    rw [flatMap_one] at e2
    by_cases z2 : ys = []
    · subst z2
      simp only [List.length_nil, List.map_nil] at e2
      simp (maxSteps := 1000000) (disch := first | assumption | omega | rfl | decide | simp only [fitsR, Bool.and_self]) [↓rules, rules, ↓rulesDp, rulesDq, lit_u64, Int.ofNat_inj, stops, q_int64, q_int, q_bool, q_complex128, q_S_uint64, q_uint64, e1, e2, ok2]
      refine rcall_quiet rfl (gauss_Spin (ws := ([] : List (BitVec 64))) (by first | omega | (simp; done) | (simp; omega)) _ _ (by simp [Rd, aRead])) ?_
      simp (maxSteps := 1000000) (disch := first | assumption | omega | rfl | decide | simp only [fitsR, Bool.and_self]) [↓rules, rules, ↓rulesDp, rulesDq, lit_u64, Int.ofNat_inj, stops, q_int64, q_int, q_bool, q_complex128, q_S_uint64, q_uint64]
      have so := spin_in (([] : List (BitVec 64))) (0, 0) ⟨by decide, by decide⟩ ⟨by decide, by decide⟩
      refine rcall_quiet rfl (gauss_Parts (near_lt _ (by omega)) (near_lt _ (by omega)) _ _) ?_
      rw [partsZ_near (a := (spinI (0, 0) (([] : List (BitVec 64)))).1) (b := (spinI (0, 0) (([] : List (BitVec 64)))).2) (decide_eq_true (by omega)) (decide_eq_true (by omega))]
      simp (maxSteps := 1000000) (disch := first | assumption | omega | rfl | decide | simp only [fitsR, Bool.and_self]) [↓rules, rules, ↓rulesDp, rulesDq, lit_u64, Int.ofNat_inj, stops, q_int64, q_int, q_bool, q_complex128, q_S_uint64, q_uint64, w1]
      refine rcall_quiet rfl (law_rest _ _ _) ?_
      simp (maxSteps := 1000000) (disch := first | assumption | omega | rfl | decide | simp only [fitsR, Bool.and_self]) [↓rules, rules, ↓rulesDp, rulesDq, lit_u64, Int.ofNat_inj, stops, q_int64, q_int, q_bool, q_complex128, q_S_uint64, q_uint64, k1, w2]
      refine rcall_quiet rfl (law_rest _ _ _) ?_
      simp (maxSteps := 1000000) (disch := first | assumption | omega | rfl | decide | simp only [fitsR, Bool.and_self]) [↓rules, rules, ↓rulesDp, rulesDq, lit_u64, Int.ofNat_inj, stops, q_int64, q_int, q_bool, q_complex128, q_S_uint64, q_uint64, k1, k2]
      exact done_q hdom (by repeat first | exact Kept.refl hdom | refine Kept.new ?_ _ | refine Kept.drop ?_ (by omega) | refine Kept.put ?_ (by omega) (by omega) _ | refine Kept.skip ?_) rfl rfl
    · have l2 : ys.length * 8 ≤ 70368744177664 ∧ ys.length ≤ 70368744177664 := by omega
      simp (maxSteps := 1000000) (disch := first | assumption | omega | rfl | decide | simp only [fitsR, Bool.and_self]) [↓rules, rules, ↓rulesDp, rulesDq, lit_u64, Int.ofNat_inj, stops, q_int64, q_int, q_bool, q_complex128, q_S_uint64, q_uint64, e1, e2, ok2, z2, l2]
      refine rcall_quiet rfl (gauss_Spin (ws := ys) (by first | omega | (simp; done) | (simp; omega)) _ _ (Rd.of_row one (gset_same _ _ _) (by simp) (by rw [flatMap_one, List.drop_zero, List.take_of_length_le (by simp)]) rfl)) ?_
      simp (maxSteps := 1000000) (disch := first | assumption | omega | rfl | decide | simp only [fitsR, Bool.and_self]) [↓rules, rules, ↓rulesDp, rulesDq, lit_u64, Int.ofNat_inj, stops, q_int64, q_int, q_bool, q_complex128, q_S_uint64, q_uint64]
      have so := spin_in (ys) (0, 0) ⟨by decide, by decide⟩ ⟨by decide, by decide⟩
      refine rcall_quiet rfl (gauss_Parts (near_lt _ (by omega)) (near_lt _ (by omega)) _ _) ?_
      rw [partsZ_near (a := (spinI (0, 0) (ys)).1) (b := (spinI (0, 0) (ys)).2) (decide_eq_true (by omega)) (decide_eq_true (by omega))]
      simp (maxSteps := 1000000) (disch := first | assumption | omega | rfl | decide | simp only [fitsR, Bool.and_self]) [↓rules, rules, ↓rulesDp, rulesDq, lit_u64, Int.ofNat_inj, stops, q_int64, q_int, q_bool, q_complex128, q_S_uint64, q_uint64, w1]
      refine rcall_quiet rfl (law_rest _ _ _) ?_
      simp (maxSteps := 1000000) (disch := first | assumption | omega | rfl | decide | simp only [fitsR, Bool.and_self]) [↓rules, rules, ↓rulesDp, rulesDq, lit_u64, Int.ofNat_inj, stops, q_int64, q_int, q_bool, q_complex128, q_S_uint64, q_uint64, k1, w2]
      refine rcall_quiet rfl (law_rest _ _ _) ?_
      simp (maxSteps := 1000000) (disch := first | assumption | omega | rfl | decide | simp only [fitsR, Bool.and_self]) [↓rules, rules, ↓rulesDp, rulesDq, lit_u64, Int.ofNat_inj, stops, q_int64, q_int, q_bool, q_complex128, q_S_uint64, q_uint64, k1, k2]
      exact done_q hdom (by repeat first | exact Kept.refl hdom | refine Kept.new ?_ _ | refine Kept.drop ?_ (by omega) | refine Kept.put ?_ (by omega) (by omega) _ | refine Kept.skip ?_) rfl rfl
  · have l1 : xs.length * 8 ≤ 70368744177664 ∧ xs.length ≤ 70368744177664 := by omega
    simp (maxSteps := 1000000) (disch := first | assumption | omega | rfl | decide | simp only [fitsR, Bool.and_self]) [↓rules, rules, ↓rulesDp, rulesDq, lit_u64, Int.ofNat_inj, stops, q_int64, q_int, q_bool, q_complex128, q_S_uint64, q_uint64, e1, ok1, z1, l1]
    have k3 : Kept g n (gset (gset (gset g n (some (.row [] true))) n none) (n + 1) (some (.row (xs.map U) true))) (n + 1 + 1) := (by repeat first | exact Kept.refl hdom | refine Kept.new ?_ _ | refine Kept.drop ?_ (by omega) | refine Kept.put ?_ (by omega) (by omega) _ | refine Kept.skip ?_)
    rw [gset_gset] at k3
    have e2 := rd_read (hb.ext (k3.ext hdom))
    rw [flatMap_one] at e2
    by_cases z2 : ys = []
    · subst z2
      simp only [List.length_nil, List.map_nil] at e2
      rw [List.append_nil] at k1 k2
      simp (maxSteps := 1000000) (disch := first | assumption | omega | rfl | decide | simp only [fitsR, Bool.and_self]) [↓rules, rules, ↓rulesDp, rulesDq, lit_u64, Int.ofNat_inj, stops, q_int64, q_int, q_bool, q_complex128, q_S_uint64, q_uint64, e2]
      refine rcall_quiet rfl (gauss_Spin (ws := xs) (by first | omega | (simp; done) | (simp; omega)) _ _ (Rd.of_row one (gset_same _ _ _) (by simp) (by rw [flatMap_one, List.drop_zero, List.take_of_length_le (by simp)]) rfl)) ?_
      simp (maxSteps := 1000000) (disch := first | assumption | omega | rfl | decide | simp only [fitsR, Bool.and_self]) [↓rules, rules, ↓rulesDp, rulesDq, lit_u64, Int.ofNat_inj, stops, q_int64, q_int, q_bool, q_complex128, q_S_uint64, q_uint64]
      have so := spin_in (xs) (0, 0) ⟨by decide, by decide⟩ ⟨by decide, by decide⟩
      refine rcall_quiet rfl (gauss_Parts (near_lt _ (by omega)) (near_lt _ (by omega)) _ _) ?_
      rw [partsZ_near (a := (spinI (0, 0) (xs)).1) (b := (spinI (0, 0) (xs)).2) (decide_eq_true (by omega)) (decide_eq_true (by omega))]
      simp (maxSteps := 1000000) (disch := first | assumption | omega | rfl | decide | simp only [fitsR, Bool.and_self]) [↓rules, rules, ↓rulesDp, rulesDq, lit_u64, Int.ofNat_inj, stops, q_int64, q_int, q_bool, q_complex128, q_S_uint64, q_uint64, w1]
      refine rcall_quiet rfl (law_rest _ _ _) ?_
      simp (maxSteps := 1000000) (disch := first | assumption | omega | rfl | decide | simp only [fitsR, Bool.and_self]) [↓rules, rules, ↓rulesDp, rulesDq, lit_u64, Int.ofNat_inj, stops, q_int64, q_int, q_bool, q_complex128, q_S_uint64, q_uint64, k1, w2]
      refine rcall_quiet rfl (law_rest _ _ _) ?_
      simp (maxSteps := 1000000) (disch := first | assumption | omega | rfl | decide | simp only [fitsR, Bool.and_self]) [↓rules, rules, ↓rulesDp, rulesDq, lit_u64, Int.ofNat_inj, stops, q_int64, q_int, q_bool, q_complex128, q_S_uint64, q_uint64, k1, k2]
      exact done_q hdom k3 rfl rfl
    · have l2 : (xs.length + ys.length) * 8 ≤ 70368744177664 ∧ xs.length + ys.length ≤ 70368744177664 := by omega
      have k4 := (k3.drop (b := n + 1) (by omega)).new (.row (xs.map U ++ ys.map U) true)
      rw [gset_gset] at k4
      simp (maxSteps := 1000000) (disch := first | assumption | omega | rfl | decide | simp only [fitsR, Bool.and_self]) [↓rules, rules, ↓rulesDp, rulesDq, lit_u64, Int.ofNat_inj, stops, q_int64, q_int, q_bool, q_complex128, q_S_uint64, q_uint64, e2, ok2, z2, l2]
      refine rcall_quiet rfl (gauss_Spin (ws := xs ++ ys) (by simp only [List.length_append]; omega) _ _ (Rd.of_row one (gset_same _ _ _) (by simp) (by rw [flatMap_one, List.drop_zero, List.take_of_length_le (by simp)]; simp) (by simp))) ?_
      simp (maxSteps := 1000000) (disch := first | assumption | omega | rfl | decide | simp only [fitsR, Bool.and_self]) [↓rules, rules, ↓rulesDp, rulesDq, lit_u64, Int.ofNat_inj, stops, q_int64, q_int, q_bool, q_complex128, q_S_uint64, q_uint64]
      have so := spin_in (xs ++ ys) (0, 0) ⟨by decide, by decide⟩ ⟨by decide, by decide⟩
      refine rcall_quiet rfl (gauss_Parts (near_lt _ (by omega)) (near_lt _ (by omega)) _ _) ?_
      rw [partsZ_near (a := (spinI (0, 0) (xs ++ ys)).1) (b := (spinI (0, 0) (xs ++ ys)).2) (decide_eq_true (by omega)) (decide_eq_true (by omega))]
      simp (maxSteps := 1000000) (disch := first | assumption | omega | rfl | decide | simp only [fitsR, Bool.and_self]) [↓rules, rules, ↓rulesDp, rulesDq, lit_u64, Int.ofNat_inj, stops, q_int64, q_int, q_bool, q_complex128, q_S_uint64, q_uint64, w1]
      refine rcall_quiet rfl (law_rest _ _ _) ?_
      simp (maxSteps := 1000000) (disch := first | assumption | omega | rfl | decide | simp only [fitsR, Bool.and_self]) [↓rules, rules, ↓rulesDp, rulesDq, lit_u64, Int.ofNat_inj, stops, q_int64, q_int, q_bool, q_complex128, q_S_uint64, q_uint64, k1, w2]
      refine rcall_quiet rfl (law_rest _ _ _) ?_
      simp (maxSteps := 1000000) (disch := first | assumption | omega | rfl | decide | simp only [fitsR, Bool.and_self]) [↓rules, rules, ↓rulesDp, rulesDq, lit_u64, Int.ofNat_inj, stops, q_int64, q_int, q_bool, q_complex128, q_S_uint64, q_uint64, k1, k2]
      exact done_q hdom k4 rfl rfl
end Go.Proofs.Ytcndbfekcmalmaa.F1

namespace Go.Proofs.Ytcndbfekcmalmaa.F1
open Go Go.Proofs Go.Proofs.YtcndbfekcmalmaaAbs Go.Proofs.YtcndbfekcmalmaaAbs.Flt
set_option maxHeartbeats 4000000
set_option maxRecDepth 100000
theorem GaussSpins (va : Value) (xs : List (BitVec 64)) (at_ part to : Int) (g : AMem) (n : Nat) (hdom : ∀ i, g i ≠ none → i < n) (ha : rdW g va xs) (_ : -9223372036854775808 ≤ at_) (_ : at_ ≤ 9223372036854775807) (_ : -9223372036854775808 ≤ part) (_ : part ≤ 9223372036854775807) (h1 : 0 ≤ to) (h2 : to ≤ 65535) :
    FnC Try.prog f_reevelaw1_GaussSpins [va, .int .i64 at_, .int .i64 part, .int .u16 to] g n (fun _ => False) (.bool true) g n := by
  refine fnC_of_rwp t_reevelaw1_GaussSpins hm rfl fun hdom => ?_
  obtain ⟨pa, ea, hva⟩ := ha.form
  simp (maxSteps := 1000000) (disch := first | assumption | omega | rfl | decide | simp only [fitsR, Bool.and_self]) [↓rules, rules, ↓rulesDp, rulesDq, lit_u64, Int.ofNat_inj, stops, rc_reevelaw1_GaussSpins, q_int, q_bool, q_complex128, q_S_uint64, q_uint16, q_uint, q_uint64]
  refine rcall_quiet rfl (awake1 _ _) ?_
  by_cases c1 : 100 < (xs.length : Int)
  · simp (maxSteps := 1000000) (disch := first | assumption | omega | rfl | decide | simp only [fitsR, Bool.and_self]) [↓rules, rules, ↓rulesDp, rulesDq, lit_u64, Int.ofNat_inj, stops, q_int, q_bool, q_complex128, q_S_uint64, q_uint16, q_uint, q_uint64, hva, c1]
    exact done_q hdom (Kept.refl hdom) rfl rfl
  by_cases c2 : at_ < 0
  · simp (maxSteps := 1000000) (disch := first | assumption | omega | rfl | decide | simp only [fitsR, Bool.and_self]) [↓rules, rules, ↓rulesDp, rulesDq, lit_u64, Int.ofNat_inj, stops, q_int, q_bool, q_complex128, q_S_uint64, q_uint16, q_uint, q_uint64, hva, c1, c2]
    exact done_q hdom (Kept.refl hdom) rfl rfl
  by_cases c3 : (xs.length : Int) ≤ at_
  · simp (maxSteps := 1000000) (disch := first | assumption | omega | rfl | decide | simp only [fitsR, Bool.and_self]) [↓rules, rules, ↓rulesDp, rulesDq, lit_u64, Int.ofNat_inj, stops, q_int, q_bool, q_complex128, q_S_uint64, q_uint16, q_uint, q_uint64, hva, c1, c2, c3]
    exact done_q hdom (Kept.refl hdom) rfl rfl
  by_cases c4 : part < 0
  · simp (maxSteps := 1000000) (disch := first | assumption | omega | rfl | decide | simp only [fitsR, Bool.and_self]) [↓rules, rules, ↓rulesDp, rulesDq, lit_u64, Int.ofNat_inj, stops, q_int, q_bool, q_complex128, q_S_uint64, q_uint16, q_uint, q_uint64, hva, c1, c2, c3, c4]
    exact done_q hdom (Kept.refl hdom) rfl rfl
  by_cases c5 : 3 < part
  · simp (maxSteps := 1000000) (disch := first | assumption | omega | rfl | decide | simp only [fitsR, Bool.and_self]) [↓rules, rules, ↓rulesDp, rulesDq, lit_u64, Int.ofNat_inj, stops, q_int, q_bool, q_complex128, q_S_uint64, q_uint16, q_uint, q_uint64, hva, c1, c2, c3, c4, c5]
    exact done_q hdom (Kept.refl hdom) rfl rfl
  obtain ⟨i, rfl⟩ : ∃ i : Nat, at_ = i := ⟨at_.toNat, by omega⟩
  obtain ⟨k, rfl⟩ : ∃ k : Nat, part = k := ⟨part.toNat, by omega⟩
  obtain ⟨t, rfl⟩ : ∃ t : Nat, to = t := ⟨to.toNat, by omega⟩
  have hi : i < xs.length := by omega
  have hk : k < 4 := by omega
  have ht : t < 65536 := by omega
  have k0 : Kept g n (gset g n (some (.row [] true))) (n + 1) := (by repeat first | exact Kept.refl hdom | refine Kept.new ?_ _ | refine Kept.drop ?_ (by omega) | refine Kept.put ?_ (by omega) (by omega) _ | refine Kept.skip ?_)
  have e1 := rd_read (ha.ext (k0.ext hdom))
  rw [flatMap_one] at e1
  have ok1 := cellOkU xs
  have e1' := e1
  rw [hva] at e1'
  have z1 : xs ≠ [] := by intro h; subst h; simp at hi
  have l1 : xs.length * 8 ≤ 70368744177664 ∧ xs.length ≤ 70368744177664 := by omega
  have w1 : IntKind.i64.wrap (16 * (k : Int)) = 16 * (k : Int) := wrap_i64 (by omega) (by omega)
  have k3 : Kept g n (gset (gset (gset g n (some (.row [] true))) n none) (n + 1) (some (.row (xs.map U) true))) (n + 1 + 1) := (by repeat first | exact Kept.refl hdom | refine Kept.new ?_ _ | refine Kept.drop ?_ (by omega) | refine Kept.put ?_ (by omega) (by omega) _ | refine Kept.skip ?_)
  rw [gset_gset] at k3
  have ld : nth (xs.map U) i = some (U xs[i]) := by
    have : (xs.map U)[i]? = some (U xs[i]) := by simp [hi]
    rw [nth_eq] at this; exact this
  have hof : BitVec.ofInt 64 (16 * (k : Int)) = BitVec.ofNat 64 (16 * k) := by
    apply BitVec.eq_of_toNat_eq; rw [BitVec.toNat_ofInt, BitVec.toNat_ofNat]; omega
  have hof2 : BitVec.ofInt 64 (t : Int) = BitVec.ofNat 64 t := by
    apply BitVec.eq_of_toNat_eq; rw [BitVec.toNat_ofInt, BitVec.toNat_ofNat]; omega
  have hsh : ∀ x : BitVec 64, x <<< (BitVec.ofNat 64 (16 * k)) = x <<< (16 * k) := fun x => by
    rw [BitVec.shiftLeft_eq', BitVec.toNat_ofNat, Nat.mod_eq_of_lt (by omega)]
  have hi1 : i + 1 ≤ xs.length := hi
  have hsp : splice (xs.map U) i [U (xs[i] &&& ~~~(65535#64 <<< (16 * k)) ||| BitVec.ofNat 64 t <<< (16 * k))] = (xs.set i (putP xs[i] k t)).map U := by
    rw [List.map_set, List.set_eq_take_append_cons_drop, if_pos (by simpa using hi)]
    simp [splice, putP]
  simp (maxSteps := 1000000) (disch := first | assumption | omega | rfl | decide | simp only [fitsR, Bool.and_self]) [↓rules, rules, ↓rulesDp, rulesDq, lit_u64, Int.ofNat_inj, stops, q_int, q_bool, q_complex128, q_S_uint64, q_uint16, q_uint, q_uint64, hva, c1, c2, c3, c4, c5, e1', ok1, z1, l1, w1, conv_to_u64 tu_int tu_uint, conv_to_u64 tu_uint16 tu_uint64, hof, hof2, hi, ld, hsh, hi1, hsp]
  have k4 := (k0.drop (b := n) (by omega)).new (.row ((xs.map U).set i (U (putP xs[i] k t))) true)
  rw [gset_gset] at k4
  have hl2 : (xs.set i (putP xs[i] k t)).length = xs.length := by simp
  have ld2 : nth ((xs.map U).set i (U (putP xs[i] k t))) i = some (U (putP xs[i] k t)) := by
    have : ((xs.map U).set i (U (putP xs[i] k t)))[i]? = some (U (putP xs[i] k t)) := by simp [hi]
    rw [nth_eq] at this; exact this
  have key := spin_put xs i hi hk ht
  have hm5 : (xs.map U).set i (U (putP xs[i] k t)) = (xs.set i (putP xs[i] k t)).map U := by rw [List.map_set]
  have hr4 := ha.ext (k4.ext hdom)
  have hr5 : rdW (gset (gset g n none) (n + 1) (some (.row ((xs.map U).set i (U (putP xs[i] k t))) true))) (.slice (some ⟨n + 1, 0, none⟩) xs.length 1) (xs.set i (putP xs[i] k t)) := by
    refine Rd.of_row (e := 1) (enc := fun w => [U w]) (fun _ => rfl) (gset_same _ _ _) ?_ ?_ ?_
    · simp
    · rw [flatMap_one, List.drop_zero, List.take_of_length_le (by simp), hm5]
    · simp
  obtain ⟨b1, o1, q1, _, q2⟩ := hr4.one hi
  have q2 := q2 _ (Ext.refl _) Try.prog _ ta_uint64
  rw [hva] at hr4 q1
  generalize putP xs[i] k t = w at *
  have s1 := spin_in xs (0, 0) ⟨by decide, by decide⟩ ⟨by decide, by decide⟩
  have s2 := spin_in (xs.set i w) (0, 0) ⟨by decide, by decide⟩ ⟨by decide, by decide⟩
  refine rcall_quiet rfl (gauss_Spin (by omega) _ _ hr4) ?_
  simp (maxSteps := 1000000) (disch := first | assumption | omega | rfl | decide | simp only [fitsR, Bool.and_self]) [↓rules, rules, ↓rulesDp, rulesDq, lit_u64, Int.ofNat_inj, stops, q_int, q_bool, q_complex128, q_S_uint64, q_uint16, q_uint, q_uint64]
  refine rcall_quiet rfl (gauss_Spin (by omega) _ _ hr5) ?_
  generalize spinI (0, 0) xs = a at *
  generalize spinI (0, 0) (xs.set i w) = b at *
  have n1 := near_eq (a := a.1) (b := b.1) (decide_eq_true (by omega)) (decide_eq_true (by omega))
  have n2 := near_eq (a := a.2) (b := b.2) (decide_eq_true (by omega)) (decide_eq_true (by omega))
  simp only [Value.slice.injEq] at q1
  obtain ⟨rfl, _, rfl⟩ := q1
  have fin : ((decide (a.1 = b.1) && decide (a.2 = b.2)) == decide (xs[i] = w)) = true := by
    by_cases c : xs[i] = w
    · have := key.2 c
      subst this
      simp [c]
    · rw [decide_eq_false c]
      by_cases d1 : a.1 = b.1
      · by_cases d2 : a.2 = b.2
        · exact absurd (key.1 (Prod.ext d1 d2)) c
        · simp [d2]
      · simp [d1]
  simp (maxSteps := 1000000) (disch := first | assumption | omega | rfl | decide | simp only [fitsR, Bool.and_self]) [↓rules, rules, ↓rulesDp, rulesDq, lit_u64, Int.ofNat_inj, stops, q_int, q_bool, q_complex128, q_S_uint64, q_uint16, q_uint, q_uint64, hi, ld2, q2, rulesF, n1, n2, bin_eql_bool tu_bool, fin]
  exact done_q hdom k4 rfl rfl
end Go.Proofs.Ytcndbfekcmalmaa.F1
