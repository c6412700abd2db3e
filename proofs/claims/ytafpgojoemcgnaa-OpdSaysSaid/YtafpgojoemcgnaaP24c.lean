/- Contracts of functions: what each one returns, and what it leaves. No statement is proved here. -/
import Derived.Test.YtafpgojoemcgnaaP24b
set_option linter.unusedVariables false
set_option linter.unusedSimpArgs false
namespace Go.Proofs.Ytafpgojoemcgnaa.F24
open Go Go.Proofs Go.Proofs.YtafpgojoemcgnaaAbs
set_option maxHeartbeats 8000000
set_option maxRecDepth 100000
theorem beq_RR (xo yo : Operand) (d : De) : aBin Try.prog .eql T_reeveref11_Reply xo yo (.agg #[.int .i64 d.e, U d.w, .int .i64 d.n]) (.agg #[.int .i64 0, U 0#64, .int .i64 0]) = some (.bool (noR d)) := by
  have : cellsEq [.int .i64 d.e, U d.w, .int .i64 d.n] [.int .i64 0, U 0#64, .int .i64 0] = noR d := by simp only [cellsEq_cons, cellsEq_nil, cellEq_int, cellEq_U, noR, Bool.and_true]
  rw [← this]; exact bin_eql_agg te_reeveref11_Reply ta_reeveref11_Reply rfl rfl
theorem goodD_geo {a b c : Int} {d : De} {ws : List Wr} (h : goodG a b c = false) : goodD a b c d ws = false := by rw [goodD, goodW, h]; rfl
theorem goodD_status {a b c : Int} {d : De} {ws : List Wr} (h : d.s < 0 ∨ 4 < d.s) : goodD a b c d ws = false := by
  rw [goodD, if_neg (by omega), if_neg (by omega), if_neg (by omega), Bool.and_false]
theorem noR_iff {d : De} : noR d = true ↔ d.e = 0 ∧ d.w = 0#64 ∧ d.n = 0 := by simp [noR]
theorem goodD_zero {a b c : Int} {d : De} {ws : List Wr} (hg : goodG a b c = true) (s0 : d.s = 0) : goodD a b c d ws = (noR d && decide (ws.length = 0) && decide (d.q = 0#64) && noL d) := by
  rw [goodD, if_pos s0]
  cases hE : (noR d && decide (ws.length = 0))
  · simp
  · simp only [Bool.and_eq_true, decide_eq_true_eq] at hE
    have h1 := noR_iff.1 hE.1
    have hn : ws = [] := List.length_eq_zero_iff.1 hE.2
    rw [hn, goodW, hg, show rangeD d = true from decide_eq_true (by omega)]
    simp [chainW]
theorem goodD_empty {a b c : Int} {d : De} {ws : List Wr} (s0 : d.s = 1 ∨ d.s = 4) (hE : (noR d && decide (ws.length = 0)) = false) : goodD a b c d ws = false := by
  rw [goodD, if_neg (by omega), if_pos s0, hE]; simp
theorem goodD_rest {a b c : Int} {d : De} {ws : List Wr} (s0 : 1 ≤ d.s ∧ d.s ≤ 4) (hE : d.s = 1 ∨ d.s = 4 → (noR d && decide (ws.length = 0)) = true) : goodD a b c d ws = (goodW a b c ws && rangeD d && seqOk d.q) := by
  rw [goodD, if_neg (by omega)]
  by_cases h : d.s = 1 ∨ d.s = 4
  · rw [if_pos h, hE h]; simp
  · rw [if_neg h, if_pos (by omega)]
theorem lt32_iff (q : BitVec 64) : decide (q < 4294967296#64) = decide (q ≤ 4294967295#64) := by
  rw [decide_eq_decide]; simp only [BitVec.lt_def, BitVec.le_def]; exact Nat.lt_succ_iff
theorem GoodDesc (a b c : Int) (d : De) (W : Value) (ws : List Wr) (g : AMem) (n : Nat) (hl : ws.length < 4611686018427387904) (hv : rdX g W ws) : FnC Try.prog f_reeveref22_GoodDesc [gv a b c, vD d W] g n (fun _ => False) (.bool (goodD a b c d ws)) g n := by
  refine fnC_of_rwp t_reeveref22_GoodDesc hm rfl fun hdom => ?_
  obtain ⟨va, ve, rfl⟩ := hv.form
  have k0 : Kept g n (gset (gset g n (some (.row [.int .i64 a, .int .i64 b, .int .i64 c] true))) (n + 1) (some (.row (cD d (.slice va ws.length ve)) true))) (n + 1 + 1) := (by repeat first | exact Kept.refl hdom | refine Kept.new ?_ _ | refine Kept.drop ?_ (by omega) | refine Kept.put ?_ (by omega) (by omega) _ | refine Kept.skip ?_)
  have hvk := hv.ext (k0.ext hdom)
  simp (maxSteps := 1000000) (disch := first | assumption | omega | rfl | decide | simp only [fitsR, Bool.and_self]) [↓rules, rules, ↓rulesDp, rulesDq, lit_u64, Int.ofNat_inj, stops, rc_reeveref22_GoodDesc, q_int, q_bool, q_uint64, q_A4_uint64, q_api_Errno, q_reeveref11_Reply, q_S_reeveref22_Write, q_reeveref22_Desc, q_reeveref1_Geo, q_reeveref22_Write]
  refine rcall_quiet rfl (GoodR _ _ _ _ _) ?_
  cases hg : goodG a b c
  · simp (maxSteps := 1000000) (disch := first | assumption | omega | rfl | decide | simp only [fitsR, Bool.and_self]) [↓rules, rules, ↓rulesDp, rulesDq, lit_u64, Int.ofNat_inj, stops, q_int, q_bool, q_uint64, q_A4_uint64, q_api_Errno, q_reeveref11_Reply, q_S_reeveref22_Write, q_reeveref22_Desc, q_reeveref1_Geo, q_reeveref22_Write]
    refine done_q hdom (by repeat first | exact Kept.refl hdom | refine Kept.new ?_ _ | refine Kept.drop ?_ (by omega) | refine Kept.put ?_ (by omega) (by omega) _ | refine Kept.skip ?_) ?_ ?_; · rfl
    rw [goodD_geo hg]; rfl
  by_cases c1 : d.s < 0
  · simp (maxSteps := 1000000) (disch := first | assumption | omega | rfl | decide | simp only [fitsR, Bool.and_self]) [↓rules, rules, ↓rulesDp, rulesDq, lit_u64, Int.ofNat_inj, stops, q_int, q_bool, q_uint64, q_A4_uint64, q_api_Errno, q_reeveref11_Reply, q_S_reeveref22_Write, q_reeveref22_Desc, q_reeveref1_Geo, q_reeveref22_Write, c1]
    refine done_q hdom (by repeat first | exact Kept.refl hdom | refine Kept.new ?_ _ | refine Kept.drop ?_ (by omega) | refine Kept.put ?_ (by omega) (by omega) _ | refine Kept.skip ?_) ?_ ?_; · rfl
    rw [goodD_status (by omega)]; rfl
  by_cases c2 : 4 < d.s
  · simp (maxSteps := 1000000) (disch := first | assumption | omega | rfl | decide | simp only [fitsR, Bool.and_self]) [↓rules, rules, ↓rulesDp, rulesDq, lit_u64, Int.ofNat_inj, stops, q_int, q_bool, q_uint64, q_A4_uint64, q_api_Errno, q_reeveref11_Reply, q_S_reeveref22_Write, q_reeveref22_Desc, q_reeveref1_Geo, q_reeveref22_Write, c1, c2]
    refine done_q hdom (by repeat first | exact Kept.refl hdom | refine Kept.new ?_ _ | refine Kept.drop ?_ (by omega) | refine Kept.put ?_ (by omega) (by omega) _ | refine Kept.skip ?_) ?_ ?_; · rfl
    rw [goodD_status (by omega)]; rfl
  simp (maxSteps := 1000000) (disch := first | assumption | omega | rfl | decide | simp only [fitsR, Bool.and_self]) [↓rules, rules, ↓rulesDp, rulesDq, lit_u64, Int.ofNat_inj, stops, q_int, q_bool, q_uint64, q_A4_uint64, q_api_Errno, q_reeveref11_Reply, q_S_reeveref22_Write, q_reeveref22_Desc, q_reeveref1_Geo, q_reeveref22_Write, c1, c2, beq_RR]
  cases hN : noR d
  · have hE : (noR d && decide (ws.length = 0)) = false := by rw [hN]; rfl
    simp (maxSteps := 1000000) (disch := first | assumption | omega | rfl | decide | simp only [fitsR, Bool.and_self]) [↓rules, rules, ↓rulesDp, rulesDq, lit_u64, Int.ofNat_inj, stops, q_int, q_bool, q_uint64, q_A4_uint64, q_api_Errno, q_reeveref11_Reply, q_S_reeveref22_Write, q_reeveref22_Desc, q_reeveref1_Geo, q_reeveref22_Write]
    by_cases s0 : d.s = 0
    · simp (maxSteps := 1000000) (disch := first | assumption | omega | rfl | decide | simp only [fitsR, Bool.and_self]) [↓rules, rules, ↓rulesDp, rulesDq, lit_u64, Int.ofNat_inj, stops, q_int, q_bool, q_uint64, q_A4_uint64, q_api_Errno, q_reeveref11_Reply, q_S_reeveref22_Write, q_reeveref22_Desc, q_reeveref1_Geo, q_reeveref22_Write, s0]
      refine done_q hdom (by repeat first | exact Kept.refl hdom | refine Kept.new ?_ _ | refine Kept.drop ?_ (by omega) | refine Kept.put ?_ (by omega) (by omega) _ | refine Kept.skip ?_) ?_ ?_; · rfl
      rw [goodD_zero hg s0, hE]; rfl
    simp (maxSteps := 1000000) (disch := first | assumption | omega | rfl | decide | simp only [fitsR, Bool.and_self]) [↓rules, rules, ↓rulesDp, rulesDq, lit_u64, Int.ofNat_inj, stops, q_int, q_bool, q_uint64, q_A4_uint64, q_api_Errno, q_reeveref11_Reply, q_S_reeveref22_Write, q_reeveref22_Desc, q_reeveref1_Geo, q_reeveref22_Write, s0]
    by_cases s1 : d.s = 1
    · simp (maxSteps := 1000000) (disch := first | assumption | omega | rfl | decide | simp only [fitsR, Bool.and_self]) [↓rules, rules, ↓rulesDp, rulesDq, lit_u64, Int.ofNat_inj, stops, q_int, q_bool, q_uint64, q_A4_uint64, q_api_Errno, q_reeveref11_Reply, q_S_reeveref22_Write, q_reeveref22_Desc, q_reeveref1_Geo, q_reeveref22_Write, s1]
      refine done_q hdom (by repeat first | exact Kept.refl hdom | refine Kept.new ?_ _ | refine Kept.drop ?_ (by omega) | refine Kept.put ?_ (by omega) (by omega) _ | refine Kept.skip ?_) ?_ ?_; · rfl
      rw [goodD_empty (Or.inl s1) hE]; rfl
    simp (maxSteps := 1000000) (disch := first | assumption | omega | rfl | decide | simp only [fitsR, Bool.and_self]) [↓rules, rules, ↓rulesDp, rulesDq, lit_u64, Int.ofNat_inj, stops, q_int, q_bool, q_uint64, q_A4_uint64, q_api_Errno, q_reeveref11_Reply, q_S_reeveref22_Write, q_reeveref22_Desc, q_reeveref1_Geo, q_reeveref22_Write, s1]
    by_cases s4 : d.s = 4
    · simp (maxSteps := 1000000) (disch := first | assumption | omega | rfl | decide | simp only [fitsR, Bool.and_self]) [↓rules, rules, ↓rulesDp, rulesDq, lit_u64, Int.ofNat_inj, stops, q_int, q_bool, q_uint64, q_A4_uint64, q_api_Errno, q_reeveref11_Reply, q_S_reeveref22_Write, q_reeveref22_Desc, q_reeveref1_Geo, q_reeveref22_Write, s4]
      refine done_q hdom (by repeat first | exact Kept.refl hdom | refine Kept.new ?_ _ | refine Kept.drop ?_ (by omega) | refine Kept.put ?_ (by omega) (by omega) _ | refine Kept.skip ?_) ?_ ?_; · rfl
      rw [goodD_empty (Or.inr s4) hE]; rfl
    simp (maxSteps := 1000000) (disch := first | assumption | omega | rfl | decide | simp only [fitsR, Bool.and_self]) [↓rules, rules, ↓rulesDp, rulesDq, lit_u64, Int.ofNat_inj, stops, q_int, q_bool, q_uint64, q_A4_uint64, q_api_Errno, q_reeveref11_Reply, q_S_reeveref22_Write, q_reeveref22_Desc, q_reeveref1_Geo, q_reeveref22_Write, s4]
    have hR := goodD_rest (a := a) (b := b) (c := c) (d := d) (ws := ws) (by omega) (fun h => by omega)
    by_cases r1 : 1#64 ≤ d.q
    case neg =>
      simp (maxSteps := 1000000) (disch := first | assumption | omega | rfl | decide | simp only [fitsR, Bool.and_self]) [↓rules, rules, ↓rulesDp, rulesDq, lit_u64, Int.ofNat_inj, stops, q_int, q_bool, q_uint64, q_A4_uint64, q_api_Errno, q_reeveref11_Reply, q_S_reeveref22_Write, q_reeveref22_Desc, q_reeveref1_Geo, q_reeveref22_Write, r1]
      refine done_q hdom (by repeat first | exact Kept.refl hdom | refine Kept.new ?_ _ | refine Kept.drop ?_ (by omega) | refine Kept.put ?_ (by omega) (by omega) _ | refine Kept.skip ?_) ?_ ?_; · rfl
      rw [hR, seqOk, decide_eq_false r1, Bool.false_and, Bool.and_false]; rfl
    simp (maxSteps := 1000000) (disch := first | assumption | omega | rfl | decide | simp only [fitsR, Bool.and_self]) [↓rules, rules, ↓rulesDp, rulesDq, lit_u64, Int.ofNat_inj, stops, q_int, q_bool, q_uint64, q_A4_uint64, q_api_Errno, q_reeveref11_Reply, q_S_reeveref22_Write, q_reeveref22_Desc, q_reeveref1_Geo, q_reeveref22_Write, r1]
    by_cases r2 : d.q < 4294967296#64
    case neg =>
      simp (maxSteps := 1000000) (disch := first | assumption | omega | rfl | decide | simp only [fitsR, Bool.and_self]) [↓rules, rules, ↓rulesDp, rulesDq, lit_u64, Int.ofNat_inj, stops, q_int, q_bool, q_uint64, q_A4_uint64, q_api_Errno, q_reeveref11_Reply, q_S_reeveref22_Write, q_reeveref22_Desc, q_reeveref1_Geo, q_reeveref22_Write, r2]
      refine done_q hdom (by repeat first | exact Kept.refl hdom | refine Kept.new ?_ _ | refine Kept.drop ?_ (by omega) | refine Kept.put ?_ (by omega) (by omega) _ | refine Kept.skip ?_) ?_ ?_; · rfl
      rw [hR, seqOk, ← lt32_iff, decide_eq_false r2, Bool.and_false, Bool.and_false]; rfl
    simp (maxSteps := 1000000) (disch := first | assumption | omega | rfl | decide | simp only [fitsR, Bool.and_self]) [↓rules, rules, ↓rulesDp, rulesDq, lit_u64, Int.ofNat_inj, stops, q_int, q_bool, q_uint64, q_A4_uint64, q_api_Errno, q_reeveref11_Reply, q_S_reeveref22_Write, q_reeveref22_Desc, q_reeveref1_Geo, q_reeveref22_Write, r2]
    by_cases r3 : 0 ≤ d.e
    case neg =>
      simp (maxSteps := 1000000) (disch := first | assumption | omega | rfl | decide | simp only [fitsR, Bool.and_self]) [↓rules, rules, ↓rulesDp, rulesDq, lit_u64, Int.ofNat_inj, stops, q_int, q_bool, q_uint64, q_A4_uint64, q_api_Errno, q_reeveref11_Reply, q_S_reeveref22_Write, q_reeveref22_Desc, q_reeveref1_Geo, q_reeveref22_Write, r3]
      refine done_q hdom (by repeat first | exact Kept.refl hdom | refine Kept.new ?_ _ | refine Kept.drop ?_ (by omega) | refine Kept.put ?_ (by omega) (by omega) _ | refine Kept.skip ?_) ?_ ?_; · rfl
      rw [hR, show rangeD d = false from decide_eq_false (by omega), Bool.and_false, Bool.false_and]; rfl
    simp (maxSteps := 1000000) (disch := first | assumption | omega | rfl | decide | simp only [fitsR, Bool.and_self]) [↓rules, rules, ↓rulesDp, rulesDq, lit_u64, Int.ofNat_inj, stops, q_int, q_bool, q_uint64, q_A4_uint64, q_api_Errno, q_reeveref11_Reply, q_S_reeveref22_Write, q_reeveref22_Desc, q_reeveref1_Geo, q_reeveref22_Write, r3]
    by_cases r4 : d.e < 256
    case neg =>
      simp (maxSteps := 1000000) (disch := first | assumption | omega | rfl | decide | simp only [fitsR, Bool.and_self]) [↓rules, rules, ↓rulesDp, rulesDq, lit_u64, Int.ofNat_inj, stops, q_int, q_bool, q_uint64, q_A4_uint64, q_api_Errno, q_reeveref11_Reply, q_S_reeveref22_Write, q_reeveref22_Desc, q_reeveref1_Geo, q_reeveref22_Write, r4]
      refine done_q hdom (by repeat first | exact Kept.refl hdom | refine Kept.new ?_ _ | refine Kept.drop ?_ (by omega) | refine Kept.put ?_ (by omega) (by omega) _ | refine Kept.skip ?_) ?_ ?_; · rfl
      rw [hR, show rangeD d = false from decide_eq_false (by omega), Bool.and_false, Bool.false_and]; rfl
    simp (maxSteps := 1000000) (disch := first | assumption | omega | rfl | decide | simp only [fitsR, Bool.and_self]) [↓rules, rules, ↓rulesDp, rulesDq, lit_u64, Int.ofNat_inj, stops, q_int, q_bool, q_uint64, q_A4_uint64, q_api_Errno, q_reeveref11_Reply, q_S_reeveref22_Write, q_reeveref22_Desc, q_reeveref1_Geo, q_reeveref22_Write, r4]
    by_cases r5 : 0 ≤ d.n
    case neg =>
      simp (maxSteps := 1000000) (disch := first | assumption | omega | rfl | decide | simp only [fitsR, Bool.and_self]) [↓rules, rules, ↓rulesDp, rulesDq, lit_u64, Int.ofNat_inj, stops, q_int, q_bool, q_uint64, q_A4_uint64, q_api_Errno, q_reeveref11_Reply, q_S_reeveref22_Write, q_reeveref22_Desc, q_reeveref1_Geo, q_reeveref22_Write, r5]
      refine done_q hdom (by repeat first | exact Kept.refl hdom | refine Kept.new ?_ _ | refine Kept.drop ?_ (by omega) | refine Kept.put ?_ (by omega) (by omega) _ | refine Kept.skip ?_) ?_ ?_; · rfl
      rw [hR, show rangeD d = false from decide_eq_false (by omega), Bool.and_false, Bool.false_and]; rfl
    simp (maxSteps := 1000000) (disch := first | assumption | omega | rfl | decide | simp only [fitsR, Bool.and_self]) [↓rules, rules, ↓rulesDp, rulesDq, lit_u64, Int.ofNat_inj, stops, q_int, q_bool, q_uint64, q_A4_uint64, q_api_Errno, q_reeveref11_Reply, q_S_reeveref22_Write, q_reeveref22_Desc, q_reeveref1_Geo, q_reeveref22_Write, r5]
    by_cases r6 : d.n < 2147483648
    case neg =>
      simp (maxSteps := 1000000) (disch := first | assumption | omega | rfl | decide | simp only [fitsR, Bool.and_self]) [↓rules, rules, ↓rulesDp, rulesDq, lit_u64, Int.ofNat_inj, stops, q_int, q_bool, q_uint64, q_A4_uint64, q_api_Errno, q_reeveref11_Reply, q_S_reeveref22_Write, q_reeveref22_Desc, q_reeveref1_Geo, q_reeveref22_Write, r6]
      refine done_q hdom (by repeat first | exact Kept.refl hdom | refine Kept.new ?_ _ | refine Kept.drop ?_ (by omega) | refine Kept.put ?_ (by omega) (by omega) _ | refine Kept.skip ?_) ?_ ?_; · rfl
      rw [hR, show rangeD d = false from decide_eq_false (by omega), Bool.and_false, Bool.false_and]; rfl
    simp (maxSteps := 1000000) (disch := first | assumption | omega | rfl | decide | simp only [fitsR, Bool.and_self]) [↓rules, rules, ↓rulesDp, rulesDq, lit_u64, Int.ofNat_inj, stops, q_int, q_bool, q_uint64, q_A4_uint64, q_api_Errno, q_reeveref11_Reply, q_S_reeveref22_Write, q_reeveref22_Desc, q_reeveref1_Geo, q_reeveref22_Write, r6]
    refine rcall_quiet rfl (GoodWrites a b c _ ws _ _ hl hvk) ?_
    simp (maxSteps := 1000000) (disch := first | assumption | omega | rfl | decide | simp only [fitsR, Bool.and_self]) [↓rules, rules, ↓rulesDp, rulesDq, lit_u64, Int.ofNat_inj, stops, q_int, q_bool, q_uint64, q_A4_uint64, q_api_Errno, q_reeveref11_Reply, q_S_reeveref22_Write, q_reeveref22_Desc, q_reeveref1_Geo, q_reeveref22_Write]
    refine done_q hdom (by repeat first | exact Kept.refl hdom | refine Kept.new ?_ _ | refine Kept.drop ?_ (by omega) | refine Kept.put ?_ (by omega) (by omega) _ | refine Kept.skip ?_) ?_ ?_; · rfl
    rw [hR, seqOk, ← lt32_iff, decide_eq_true r1, decide_eq_true r2, show rangeD d = true from decide_eq_true (by omega)]; simp only [Bool.and_true]; rfl
  by_cases hn : ws = []
  · have hE : (noR d && decide (ws.length = 0)) = true := by rw [hN, hn]; rfl
    simp (maxSteps := 1000000) (disch := first | assumption | omega | rfl | decide | simp only [fitsR, Bool.and_self]) [↓rules, rules, ↓rulesDp, rulesDq, lit_u64, Int.ofNat_inj, stops, q_int, q_bool, q_uint64, q_A4_uint64, q_api_Errno, q_reeveref11_Reply, q_S_reeveref22_Write, q_reeveref22_Desc, q_reeveref1_Geo, q_reeveref22_Write]
    rw [show decide (ws = []) = true from decide_eq_true hn]
    by_cases s0 : d.s = 0
    · simp (maxSteps := 1000000) (disch := first | assumption | omega | rfl | decide | simp only [fitsR, Bool.and_self]) [↓rules, rules, ↓rulesDp, rulesDq, lit_u64, Int.ofNat_inj, stops, q_int, q_bool, q_uint64, q_A4_uint64, q_api_Errno, q_reeveref11_Reply, q_S_reeveref22_Write, q_reeveref22_Desc, q_reeveref1_Geo, q_reeveref22_Write, s0]
      by_cases q0 : d.q = 0#64
      · simp (maxSteps := 1000000) (disch := first | assumption | omega | rfl | decide | simp only [fitsR, Bool.and_self]) [↓rules, rules, ↓rulesDp, rulesDq, lit_u64, Int.ofNat_inj, stops, q_int, q_bool, q_uint64, q_A4_uint64, q_api_Errno, q_reeveref11_Reply, q_S_reeveref22_Write, q_reeveref22_Desc, q_reeveref1_Geo, q_reeveref22_Write, q0, beq_L]
        refine done_q hdom (by repeat first | exact Kept.refl hdom | refine Kept.new ?_ _ | refine Kept.drop ?_ (by omega) | refine Kept.put ?_ (by omega) (by omega) _ | refine Kept.skip ?_) ?_ ?_; · rfl
        rw [goodD_zero hg s0, hE, q0]; rfl
      · simp (maxSteps := 1000000) (disch := first | assumption | omega | rfl | decide | simp only [fitsR, Bool.and_self]) [↓rules, rules, ↓rulesDp, rulesDq, lit_u64, Int.ofNat_inj, stops, q_int, q_bool, q_uint64, q_A4_uint64, q_api_Errno, q_reeveref11_Reply, q_S_reeveref22_Write, q_reeveref22_Desc, q_reeveref1_Geo, q_reeveref22_Write, q0]
        refine done_q hdom (by repeat first | exact Kept.refl hdom | refine Kept.new ?_ _ | refine Kept.drop ?_ (by omega) | refine Kept.put ?_ (by omega) (by omega) _ | refine Kept.skip ?_) ?_ ?_; · rfl
        rw [goodD_zero hg s0, hE, decide_eq_false q0]; rfl
    simp (maxSteps := 1000000) (disch := first | assumption | omega | rfl | decide | simp only [fitsR, Bool.and_self]) [↓rules, rules, ↓rulesDp, rulesDq, lit_u64, Int.ofNat_inj, stops, q_int, q_bool, q_uint64, q_A4_uint64, q_api_Errno, q_reeveref11_Reply, q_S_reeveref22_Write, q_reeveref22_Desc, q_reeveref1_Geo, q_reeveref22_Write, s0]
    by_cases s1 : d.s = 1
    · simp (maxSteps := 1000000) (disch := first | assumption | omega | rfl | decide | simp only [fitsR, Bool.and_self]) [↓rules, rules, ↓rulesDp, rulesDq, lit_u64, Int.ofNat_inj, stops, q_int, q_bool, q_uint64, q_A4_uint64, q_api_Errno, q_reeveref11_Reply, q_S_reeveref22_Write, q_reeveref22_Desc, q_reeveref1_Geo, q_reeveref22_Write, s1]
      have hR := goodD_rest (a := a) (b := b) (c := c) (d := d) (ws := ws) (by omega) (fun _ => hE)
      by_cases r1 : 1#64 ≤ d.q
      case neg =>
        simp (maxSteps := 1000000) (disch := first | assumption | omega | rfl | decide | simp only [fitsR, Bool.and_self]) [↓rules, rules, ↓rulesDp, rulesDq, lit_u64, Int.ofNat_inj, stops, q_int, q_bool, q_uint64, q_A4_uint64, q_api_Errno, q_reeveref11_Reply, q_S_reeveref22_Write, q_reeveref22_Desc, q_reeveref1_Geo, q_reeveref22_Write, r1]
        refine done_q hdom (by repeat first | exact Kept.refl hdom | refine Kept.new ?_ _ | refine Kept.drop ?_ (by omega) | refine Kept.put ?_ (by omega) (by omega) _ | refine Kept.skip ?_) ?_ ?_; · rfl
        rw [hR, seqOk, decide_eq_false r1, Bool.false_and, Bool.and_false]; rfl
      simp (maxSteps := 1000000) (disch := first | assumption | omega | rfl | decide | simp only [fitsR, Bool.and_self]) [↓rules, rules, ↓rulesDp, rulesDq, lit_u64, Int.ofNat_inj, stops, q_int, q_bool, q_uint64, q_A4_uint64, q_api_Errno, q_reeveref11_Reply, q_S_reeveref22_Write, q_reeveref22_Desc, q_reeveref1_Geo, q_reeveref22_Write, r1]
      by_cases r2 : d.q < 4294967296#64
      case neg =>
        simp (maxSteps := 1000000) (disch := first | assumption | omega | rfl | decide | simp only [fitsR, Bool.and_self]) [↓rules, rules, ↓rulesDp, rulesDq, lit_u64, Int.ofNat_inj, stops, q_int, q_bool, q_uint64, q_A4_uint64, q_api_Errno, q_reeveref11_Reply, q_S_reeveref22_Write, q_reeveref22_Desc, q_reeveref1_Geo, q_reeveref22_Write, r2]
        refine done_q hdom (by repeat first | exact Kept.refl hdom | refine Kept.new ?_ _ | refine Kept.drop ?_ (by omega) | refine Kept.put ?_ (by omega) (by omega) _ | refine Kept.skip ?_) ?_ ?_; · rfl
        rw [hR, seqOk, ← lt32_iff, decide_eq_false r2, Bool.and_false, Bool.and_false]; rfl
      simp (maxSteps := 1000000) (disch := first | assumption | omega | rfl | decide | simp only [fitsR, Bool.and_self]) [↓rules, rules, ↓rulesDp, rulesDq, lit_u64, Int.ofNat_inj, stops, q_int, q_bool, q_uint64, q_A4_uint64, q_api_Errno, q_reeveref11_Reply, q_S_reeveref22_Write, q_reeveref22_Desc, q_reeveref1_Geo, q_reeveref22_Write, r2]
      by_cases r3 : 0 ≤ d.e
      case neg =>
        simp (maxSteps := 1000000) (disch := first | assumption | omega | rfl | decide | simp only [fitsR, Bool.and_self]) [↓rules, rules, ↓rulesDp, rulesDq, lit_u64, Int.ofNat_inj, stops, q_int, q_bool, q_uint64, q_A4_uint64, q_api_Errno, q_reeveref11_Reply, q_S_reeveref22_Write, q_reeveref22_Desc, q_reeveref1_Geo, q_reeveref22_Write, r3]
        refine done_q hdom (by repeat first | exact Kept.refl hdom | refine Kept.new ?_ _ | refine Kept.drop ?_ (by omega) | refine Kept.put ?_ (by omega) (by omega) _ | refine Kept.skip ?_) ?_ ?_; · rfl
        rw [hR, show rangeD d = false from decide_eq_false (by omega), Bool.and_false, Bool.false_and]; rfl
      simp (maxSteps := 1000000) (disch := first | assumption | omega | rfl | decide | simp only [fitsR, Bool.and_self]) [↓rules, rules, ↓rulesDp, rulesDq, lit_u64, Int.ofNat_inj, stops, q_int, q_bool, q_uint64, q_A4_uint64, q_api_Errno, q_reeveref11_Reply, q_S_reeveref22_Write, q_reeveref22_Desc, q_reeveref1_Geo, q_reeveref22_Write, r3]
      by_cases r4 : d.e < 256
      case neg =>
        simp (maxSteps := 1000000) (disch := first | assumption | omega | rfl | decide | simp only [fitsR, Bool.and_self]) [↓rules, rules, ↓rulesDp, rulesDq, lit_u64, Int.ofNat_inj, stops, q_int, q_bool, q_uint64, q_A4_uint64, q_api_Errno, q_reeveref11_Reply, q_S_reeveref22_Write, q_reeveref22_Desc, q_reeveref1_Geo, q_reeveref22_Write, r4]
        refine done_q hdom (by repeat first | exact Kept.refl hdom | refine Kept.new ?_ _ | refine Kept.drop ?_ (by omega) | refine Kept.put ?_ (by omega) (by omega) _ | refine Kept.skip ?_) ?_ ?_; · rfl
        rw [hR, show rangeD d = false from decide_eq_false (by omega), Bool.and_false, Bool.false_and]; rfl
      simp (maxSteps := 1000000) (disch := first | assumption | omega | rfl | decide | simp only [fitsR, Bool.and_self]) [↓rules, rules, ↓rulesDp, rulesDq, lit_u64, Int.ofNat_inj, stops, q_int, q_bool, q_uint64, q_A4_uint64, q_api_Errno, q_reeveref11_Reply, q_S_reeveref22_Write, q_reeveref22_Desc, q_reeveref1_Geo, q_reeveref22_Write, r4]
      by_cases r5 : 0 ≤ d.n
      case neg =>
        simp (maxSteps := 1000000) (disch := first | assumption | omega | rfl | decide | simp only [fitsR, Bool.and_self]) [↓rules, rules, ↓rulesDp, rulesDq, lit_u64, Int.ofNat_inj, stops, q_int, q_bool, q_uint64, q_A4_uint64, q_api_Errno, q_reeveref11_Reply, q_S_reeveref22_Write, q_reeveref22_Desc, q_reeveref1_Geo, q_reeveref22_Write, r5]
        refine done_q hdom (by repeat first | exact Kept.refl hdom | refine Kept.new ?_ _ | refine Kept.drop ?_ (by omega) | refine Kept.put ?_ (by omega) (by omega) _ | refine Kept.skip ?_) ?_ ?_; · rfl
        rw [hR, show rangeD d = false from decide_eq_false (by omega), Bool.and_false, Bool.false_and]; rfl
      simp (maxSteps := 1000000) (disch := first | assumption | omega | rfl | decide | simp only [fitsR, Bool.and_self]) [↓rules, rules, ↓rulesDp, rulesDq, lit_u64, Int.ofNat_inj, stops, q_int, q_bool, q_uint64, q_A4_uint64, q_api_Errno, q_reeveref11_Reply, q_S_reeveref22_Write, q_reeveref22_Desc, q_reeveref1_Geo, q_reeveref22_Write, r5]
      by_cases r6 : d.n < 2147483648
      case neg =>
        simp (maxSteps := 1000000) (disch := first | assumption | omega | rfl | decide | simp only [fitsR, Bool.and_self]) [↓rules, rules, ↓rulesDp, rulesDq, lit_u64, Int.ofNat_inj, stops, q_int, q_bool, q_uint64, q_A4_uint64, q_api_Errno, q_reeveref11_Reply, q_S_reeveref22_Write, q_reeveref22_Desc, q_reeveref1_Geo, q_reeveref22_Write, r6]
        refine done_q hdom (by repeat first | exact Kept.refl hdom | refine Kept.new ?_ _ | refine Kept.drop ?_ (by omega) | refine Kept.put ?_ (by omega) (by omega) _ | refine Kept.skip ?_) ?_ ?_; · rfl
        rw [hR, show rangeD d = false from decide_eq_false (by omega), Bool.and_false, Bool.false_and]; rfl
      simp (maxSteps := 1000000) (disch := first | assumption | omega | rfl | decide | simp only [fitsR, Bool.and_self]) [↓rules, rules, ↓rulesDp, rulesDq, lit_u64, Int.ofNat_inj, stops, q_int, q_bool, q_uint64, q_A4_uint64, q_api_Errno, q_reeveref11_Reply, q_S_reeveref22_Write, q_reeveref22_Desc, q_reeveref1_Geo, q_reeveref22_Write, r6]
      refine rcall_quiet rfl (GoodWrites a b c _ ws _ _ hl hvk) ?_
      simp (maxSteps := 1000000) (disch := first | assumption | omega | rfl | decide | simp only [fitsR, Bool.and_self]) [↓rules, rules, ↓rulesDp, rulesDq, lit_u64, Int.ofNat_inj, stops, q_int, q_bool, q_uint64, q_A4_uint64, q_api_Errno, q_reeveref11_Reply, q_S_reeveref22_Write, q_reeveref22_Desc, q_reeveref1_Geo, q_reeveref22_Write]
      refine done_q hdom (by repeat first | exact Kept.refl hdom | refine Kept.new ?_ _ | refine Kept.drop ?_ (by omega) | refine Kept.put ?_ (by omega) (by omega) _ | refine Kept.skip ?_) ?_ ?_; · rfl
      rw [hR, seqOk, ← lt32_iff, decide_eq_true r1, decide_eq_true r2, show rangeD d = true from decide_eq_true (by omega)]; simp only [Bool.and_true]; rfl
    simp (maxSteps := 1000000) (disch := first | assumption | omega | rfl | decide | simp only [fitsR, Bool.and_self]) [↓rules, rules, ↓rulesDp, rulesDq, lit_u64, Int.ofNat_inj, stops, q_int, q_bool, q_uint64, q_A4_uint64, q_api_Errno, q_reeveref11_Reply, q_S_reeveref22_Write, q_reeveref22_Desc, q_reeveref1_Geo, q_reeveref22_Write, s1]
    by_cases s4 : d.s = 4
    · simp (maxSteps := 1000000) (disch := first | assumption | omega | rfl | decide | simp only [fitsR, Bool.and_self]) [↓rules, rules, ↓rulesDp, rulesDq, lit_u64, Int.ofNat_inj, stops, q_int, q_bool, q_uint64, q_A4_uint64, q_api_Errno, q_reeveref11_Reply, q_S_reeveref22_Write, q_reeveref22_Desc, q_reeveref1_Geo, q_reeveref22_Write, s4]
      have hR := goodD_rest (a := a) (b := b) (c := c) (d := d) (ws := ws) (by omega) (fun _ => hE)
      by_cases r1 : 1#64 ≤ d.q
      case neg =>
        simp (maxSteps := 1000000) (disch := first | assumption | omega | rfl | decide | simp only [fitsR, Bool.and_self]) [↓rules, rules, ↓rulesDp, rulesDq, lit_u64, Int.ofNat_inj, stops, q_int, q_bool, q_uint64, q_A4_uint64, q_api_Errno, q_reeveref11_Reply, q_S_reeveref22_Write, q_reeveref22_Desc, q_reeveref1_Geo, q_reeveref22_Write, r1]
        refine done_q hdom (by repeat first | exact Kept.refl hdom | refine Kept.new ?_ _ | refine Kept.drop ?_ (by omega) | refine Kept.put ?_ (by omega) (by omega) _ | refine Kept.skip ?_) ?_ ?_; · rfl
        rw [hR, seqOk, decide_eq_false r1, Bool.false_and, Bool.and_false]; rfl
      simp (maxSteps := 1000000) (disch := first | assumption | omega | rfl | decide | simp only [fitsR, Bool.and_self]) [↓rules, rules, ↓rulesDp, rulesDq, lit_u64, Int.ofNat_inj, stops, q_int, q_bool, q_uint64, q_A4_uint64, q_api_Errno, q_reeveref11_Reply, q_S_reeveref22_Write, q_reeveref22_Desc, q_reeveref1_Geo, q_reeveref22_Write, r1]
      by_cases r2 : d.q < 4294967296#64
      case neg =>
        simp (maxSteps := 1000000) (disch := first | assumption | omega | rfl | decide | simp only [fitsR, Bool.and_self]) [↓rules, rules, ↓rulesDp, rulesDq, lit_u64, Int.ofNat_inj, stops, q_int, q_bool, q_uint64, q_A4_uint64, q_api_Errno, q_reeveref11_Reply, q_S_reeveref22_Write, q_reeveref22_Desc, q_reeveref1_Geo, q_reeveref22_Write, r2]
        refine done_q hdom (by repeat first | exact Kept.refl hdom | refine Kept.new ?_ _ | refine Kept.drop ?_ (by omega) | refine Kept.put ?_ (by omega) (by omega) _ | refine Kept.skip ?_) ?_ ?_; · rfl
        rw [hR, seqOk, ← lt32_iff, decide_eq_false r2, Bool.and_false, Bool.and_false]; rfl
      simp (maxSteps := 1000000) (disch := first | assumption | omega | rfl | decide | simp only [fitsR, Bool.and_self]) [↓rules, rules, ↓rulesDp, rulesDq, lit_u64, Int.ofNat_inj, stops, q_int, q_bool, q_uint64, q_A4_uint64, q_api_Errno, q_reeveref11_Reply, q_S_reeveref22_Write, q_reeveref22_Desc, q_reeveref1_Geo, q_reeveref22_Write, r2]
      by_cases r3 : 0 ≤ d.e
      case neg =>
        simp (maxSteps := 1000000) (disch := first | assumption | omega | rfl | decide | simp only [fitsR, Bool.and_self]) [↓rules, rules, ↓rulesDp, rulesDq, lit_u64, Int.ofNat_inj, stops, q_int, q_bool, q_uint64, q_A4_uint64, q_api_Errno, q_reeveref11_Reply, q_S_reeveref22_Write, q_reeveref22_Desc, q_reeveref1_Geo, q_reeveref22_Write, r3]
        refine done_q hdom (by repeat first | exact Kept.refl hdom | refine Kept.new ?_ _ | refine Kept.drop ?_ (by omega) | refine Kept.put ?_ (by omega) (by omega) _ | refine Kept.skip ?_) ?_ ?_; · rfl
        rw [hR, show rangeD d = false from decide_eq_false (by omega), Bool.and_false, Bool.false_and]; rfl
      simp (maxSteps := 1000000) (disch := first | assumption | omega | rfl | decide | simp only [fitsR, Bool.and_self]) [↓rules, rules, ↓rulesDp, rulesDq, lit_u64, Int.ofNat_inj, stops, q_int, q_bool, q_uint64, q_A4_uint64, q_api_Errno, q_reeveref11_Reply, q_S_reeveref22_Write, q_reeveref22_Desc, q_reeveref1_Geo, q_reeveref22_Write, r3]
      by_cases r4 : d.e < 256
      case neg =>
        simp (maxSteps := 1000000) (disch := first | assumption | omega | rfl | decide | simp only [fitsR, Bool.and_self]) [↓rules, rules, ↓rulesDp, rulesDq, lit_u64, Int.ofNat_inj, stops, q_int, q_bool, q_uint64, q_A4_uint64, q_api_Errno, q_reeveref11_Reply, q_S_reeveref22_Write, q_reeveref22_Desc, q_reeveref1_Geo, q_reeveref22_Write, r4]
        refine done_q hdom (by repeat first | exact Kept.refl hdom | refine Kept.new ?_ _ | refine Kept.drop ?_ (by omega) | refine Kept.put ?_ (by omega) (by omega) _ | refine Kept.skip ?_) ?_ ?_; · rfl
        rw [hR, show rangeD d = false from decide_eq_false (by omega), Bool.and_false, Bool.false_and]; rfl
      simp (maxSteps := 1000000) (disch := first | assumption | omega | rfl | decide | simp only [fitsR, Bool.and_self]) [↓rules, rules, ↓rulesDp, rulesDq, lit_u64, Int.ofNat_inj, stops, q_int, q_bool, q_uint64, q_A4_uint64, q_api_Errno, q_reeveref11_Reply, q_S_reeveref22_Write, q_reeveref22_Desc, q_reeveref1_Geo, q_reeveref22_Write, r4]
      by_cases r5 : 0 ≤ d.n
      case neg =>
        simp (maxSteps := 1000000) (disch := first | assumption | omega | rfl | decide | simp only [fitsR, Bool.and_self]) [↓rules, rules, ↓rulesDp, rulesDq, lit_u64, Int.ofNat_inj, stops, q_int, q_bool, q_uint64, q_A4_uint64, q_api_Errno, q_reeveref11_Reply, q_S_reeveref22_Write, q_reeveref22_Desc, q_reeveref1_Geo, q_reeveref22_Write, r5]
        refine done_q hdom (by repeat first | exact Kept.refl hdom | refine Kept.new ?_ _ | refine Kept.drop ?_ (by omega) | refine Kept.put ?_ (by omega) (by omega) _ | refine Kept.skip ?_) ?_ ?_; · rfl
        rw [hR, show rangeD d = false from decide_eq_false (by omega), Bool.and_false, Bool.false_and]; rfl
      simp (maxSteps := 1000000) (disch := first | assumption | omega | rfl | decide | simp only [fitsR, Bool.and_self]) [↓rules, rules, ↓rulesDp, rulesDq, lit_u64, Int.ofNat_inj, stops, q_int, q_bool, q_uint64, q_A4_uint64, q_api_Errno, q_reeveref11_Reply, q_S_reeveref22_Write, q_reeveref22_Desc, q_reeveref1_Geo, q_reeveref22_Write, r5]
      by_cases r6 : d.n < 2147483648
      case neg =>
        simp (maxSteps := 1000000) (disch := first | assumption | omega | rfl | decide | simp only [fitsR, Bool.and_self]) [↓rules, rules, ↓rulesDp, rulesDq, lit_u64, Int.ofNat_inj, stops, q_int, q_bool, q_uint64, q_A4_uint64, q_api_Errno, q_reeveref11_Reply, q_S_reeveref22_Write, q_reeveref22_Desc, q_reeveref1_Geo, q_reeveref22_Write, r6]
        refine done_q hdom (by repeat first | exact Kept.refl hdom | refine Kept.new ?_ _ | refine Kept.drop ?_ (by omega) | refine Kept.put ?_ (by omega) (by omega) _ | refine Kept.skip ?_) ?_ ?_; · rfl
        rw [hR, show rangeD d = false from decide_eq_false (by omega), Bool.and_false, Bool.false_and]; rfl
      simp (maxSteps := 1000000) (disch := first | assumption | omega | rfl | decide | simp only [fitsR, Bool.and_self]) [↓rules, rules, ↓rulesDp, rulesDq, lit_u64, Int.ofNat_inj, stops, q_int, q_bool, q_uint64, q_A4_uint64, q_api_Errno, q_reeveref11_Reply, q_S_reeveref22_Write, q_reeveref22_Desc, q_reeveref1_Geo, q_reeveref22_Write, r6]
      refine rcall_quiet rfl (GoodWrites a b c _ ws _ _ hl hvk) ?_
      simp (maxSteps := 1000000) (disch := first | assumption | omega | rfl | decide | simp only [fitsR, Bool.and_self]) [↓rules, rules, ↓rulesDp, rulesDq, lit_u64, Int.ofNat_inj, stops, q_int, q_bool, q_uint64, q_A4_uint64, q_api_Errno, q_reeveref11_Reply, q_S_reeveref22_Write, q_reeveref22_Desc, q_reeveref1_Geo, q_reeveref22_Write]
      refine done_q hdom (by repeat first | exact Kept.refl hdom | refine Kept.new ?_ _ | refine Kept.drop ?_ (by omega) | refine Kept.put ?_ (by omega) (by omega) _ | refine Kept.skip ?_) ?_ ?_; · rfl
      rw [hR, seqOk, ← lt32_iff, decide_eq_true r1, decide_eq_true r2, show rangeD d = true from decide_eq_true (by omega)]; simp only [Bool.and_true]; rfl
    simp (maxSteps := 1000000) (disch := first | assumption | omega | rfl | decide | simp only [fitsR, Bool.and_self]) [↓rules, rules, ↓rulesDp, rulesDq, lit_u64, Int.ofNat_inj, stops, q_int, q_bool, q_uint64, q_A4_uint64, q_api_Errno, q_reeveref11_Reply, q_S_reeveref22_Write, q_reeveref22_Desc, q_reeveref1_Geo, q_reeveref22_Write, s4]
    have hR := goodD_rest (a := a) (b := b) (c := c) (d := d) (ws := ws) (by omega) (fun h => by omega)
    by_cases r1 : 1#64 ≤ d.q
    case neg =>
      simp (maxSteps := 1000000) (disch := first | assumption | omega | rfl | decide | simp only [fitsR, Bool.and_self]) [↓rules, rules, ↓rulesDp, rulesDq, lit_u64, Int.ofNat_inj, stops, q_int, q_bool, q_uint64, q_A4_uint64, q_api_Errno, q_reeveref11_Reply, q_S_reeveref22_Write, q_reeveref22_Desc, q_reeveref1_Geo, q_reeveref22_Write, r1]
      refine done_q hdom (by repeat first | exact Kept.refl hdom | refine Kept.new ?_ _ | refine Kept.drop ?_ (by omega) | refine Kept.put ?_ (by omega) (by omega) _ | refine Kept.skip ?_) ?_ ?_; · rfl
      rw [hR, seqOk, decide_eq_false r1, Bool.false_and, Bool.and_false]; rfl
    simp (maxSteps := 1000000) (disch := first | assumption | omega | rfl | decide | simp only [fitsR, Bool.and_self]) [↓rules, rules, ↓rulesDp, rulesDq, lit_u64, Int.ofNat_inj, stops, q_int, q_bool, q_uint64, q_A4_uint64, q_api_Errno, q_reeveref11_Reply, q_S_reeveref22_Write, q_reeveref22_Desc, q_reeveref1_Geo, q_reeveref22_Write, r1]
    by_cases r2 : d.q < 4294967296#64
    case neg =>
      simp (maxSteps := 1000000) (disch := first | assumption | omega | rfl | decide | simp only [fitsR, Bool.and_self]) [↓rules, rules, ↓rulesDp, rulesDq, lit_u64, Int.ofNat_inj, stops, q_int, q_bool, q_uint64, q_A4_uint64, q_api_Errno, q_reeveref11_Reply, q_S_reeveref22_Write, q_reeveref22_Desc, q_reeveref1_Geo, q_reeveref22_Write, r2]
      refine done_q hdom (by repeat first | exact Kept.refl hdom | refine Kept.new ?_ _ | refine Kept.drop ?_ (by omega) | refine Kept.put ?_ (by omega) (by omega) _ | refine Kept.skip ?_) ?_ ?_; · rfl
      rw [hR, seqOk, ← lt32_iff, decide_eq_false r2, Bool.and_false, Bool.and_false]; rfl
    simp (maxSteps := 1000000) (disch := first | assumption | omega | rfl | decide | simp only [fitsR, Bool.and_self]) [↓rules, rules, ↓rulesDp, rulesDq, lit_u64, Int.ofNat_inj, stops, q_int, q_bool, q_uint64, q_A4_uint64, q_api_Errno, q_reeveref11_Reply, q_S_reeveref22_Write, q_reeveref22_Desc, q_reeveref1_Geo, q_reeveref22_Write, r2]
    by_cases r3 : 0 ≤ d.e
    case neg =>
      simp (maxSteps := 1000000) (disch := first | assumption | omega | rfl | decide | simp only [fitsR, Bool.and_self]) [↓rules, rules, ↓rulesDp, rulesDq, lit_u64, Int.ofNat_inj, stops, q_int, q_bool, q_uint64, q_A4_uint64, q_api_Errno, q_reeveref11_Reply, q_S_reeveref22_Write, q_reeveref22_Desc, q_reeveref1_Geo, q_reeveref22_Write, r3]
      refine done_q hdom (by repeat first | exact Kept.refl hdom | refine Kept.new ?_ _ | refine Kept.drop ?_ (by omega) | refine Kept.put ?_ (by omega) (by omega) _ | refine Kept.skip ?_) ?_ ?_; · rfl
      rw [hR, show rangeD d = false from decide_eq_false (by omega), Bool.and_false, Bool.false_and]; rfl
    simp (maxSteps := 1000000) (disch := first | assumption | omega | rfl | decide | simp only [fitsR, Bool.and_self]) [↓rules, rules, ↓rulesDp, rulesDq, lit_u64, Int.ofNat_inj, stops, q_int, q_bool, q_uint64, q_A4_uint64, q_api_Errno, q_reeveref11_Reply, q_S_reeveref22_Write, q_reeveref22_Desc, q_reeveref1_Geo, q_reeveref22_Write, r3]
    by_cases r4 : d.e < 256
    case neg =>
      simp (maxSteps := 1000000) (disch := first | assumption | omega | rfl | decide | simp only [fitsR, Bool.and_self]) [↓rules, rules, ↓rulesDp, rulesDq, lit_u64, Int.ofNat_inj, stops, q_int, q_bool, q_uint64, q_A4_uint64, q_api_Errno, q_reeveref11_Reply, q_S_reeveref22_Write, q_reeveref22_Desc, q_reeveref1_Geo, q_reeveref22_Write, r4]
      refine done_q hdom (by repeat first | exact Kept.refl hdom | refine Kept.new ?_ _ | refine Kept.drop ?_ (by omega) | refine Kept.put ?_ (by omega) (by omega) _ | refine Kept.skip ?_) ?_ ?_; · rfl
      rw [hR, show rangeD d = false from decide_eq_false (by omega), Bool.and_false, Bool.false_and]; rfl
    simp (maxSteps := 1000000) (disch := first | assumption | omega | rfl | decide | simp only [fitsR, Bool.and_self]) [↓rules, rules, ↓rulesDp, rulesDq, lit_u64, Int.ofNat_inj, stops, q_int, q_bool, q_uint64, q_A4_uint64, q_api_Errno, q_reeveref11_Reply, q_S_reeveref22_Write, q_reeveref22_Desc, q_reeveref1_Geo, q_reeveref22_Write, r4]
    by_cases r5 : 0 ≤ d.n
    case neg =>
      simp (maxSteps := 1000000) (disch := first | assumption | omega | rfl | decide | simp only [fitsR, Bool.and_self]) [↓rules, rules, ↓rulesDp, rulesDq, lit_u64, Int.ofNat_inj, stops, q_int, q_bool, q_uint64, q_A4_uint64, q_api_Errno, q_reeveref11_Reply, q_S_reeveref22_Write, q_reeveref22_Desc, q_reeveref1_Geo, q_reeveref22_Write, r5]
      refine done_q hdom (by repeat first | exact Kept.refl hdom | refine Kept.new ?_ _ | refine Kept.drop ?_ (by omega) | refine Kept.put ?_ (by omega) (by omega) _ | refine Kept.skip ?_) ?_ ?_; · rfl
      rw [hR, show rangeD d = false from decide_eq_false (by omega), Bool.and_false, Bool.false_and]; rfl
    simp (maxSteps := 1000000) (disch := first | assumption | omega | rfl | decide | simp only [fitsR, Bool.and_self]) [↓rules, rules, ↓rulesDp, rulesDq, lit_u64, Int.ofNat_inj, stops, q_int, q_bool, q_uint64, q_A4_uint64, q_api_Errno, q_reeveref11_Reply, q_S_reeveref22_Write, q_reeveref22_Desc, q_reeveref1_Geo, q_reeveref22_Write, r5]
    by_cases r6 : d.n < 2147483648
    case neg =>
      simp (maxSteps := 1000000) (disch := first | assumption | omega | rfl | decide | simp only [fitsR, Bool.and_self]) [↓rules, rules, ↓rulesDp, rulesDq, lit_u64, Int.ofNat_inj, stops, q_int, q_bool, q_uint64, q_A4_uint64, q_api_Errno, q_reeveref11_Reply, q_S_reeveref22_Write, q_reeveref22_Desc, q_reeveref1_Geo, q_reeveref22_Write, r6]
      refine done_q hdom (by repeat first | exact Kept.refl hdom | refine Kept.new ?_ _ | refine Kept.drop ?_ (by omega) | refine Kept.put ?_ (by omega) (by omega) _ | refine Kept.skip ?_) ?_ ?_; · rfl
      rw [hR, show rangeD d = false from decide_eq_false (by omega), Bool.and_false, Bool.false_and]; rfl
    simp (maxSteps := 1000000) (disch := first | assumption | omega | rfl | decide | simp only [fitsR, Bool.and_self]) [↓rules, rules, ↓rulesDp, rulesDq, lit_u64, Int.ofNat_inj, stops, q_int, q_bool, q_uint64, q_A4_uint64, q_api_Errno, q_reeveref11_Reply, q_S_reeveref22_Write, q_reeveref22_Desc, q_reeveref1_Geo, q_reeveref22_Write, r6]
    refine rcall_quiet rfl (GoodWrites a b c _ ws _ _ hl hvk) ?_
    simp (maxSteps := 1000000) (disch := first | assumption | omega | rfl | decide | simp only [fitsR, Bool.and_self]) [↓rules, rules, ↓rulesDp, rulesDq, lit_u64, Int.ofNat_inj, stops, q_int, q_bool, q_uint64, q_A4_uint64, q_api_Errno, q_reeveref11_Reply, q_S_reeveref22_Write, q_reeveref22_Desc, q_reeveref1_Geo, q_reeveref22_Write]
    refine done_q hdom (by repeat first | exact Kept.refl hdom | refine Kept.new ?_ _ | refine Kept.drop ?_ (by omega) | refine Kept.put ?_ (by omega) (by omega) _ | refine Kept.skip ?_) ?_ ?_; · rfl
    rw [hR, seqOk, ← lt32_iff, decide_eq_true r1, decide_eq_true r2, show rangeD d = true from decide_eq_true (by omega)]; simp only [Bool.and_true]; rfl
  · have hE : (noR d && decide (ws.length = 0)) = false := by rw [hN, decide_eq_false (fun h => hn (List.length_eq_zero_iff.1 h))]; rfl
    simp (maxSteps := 1000000) (disch := first | assumption | omega | rfl | decide | simp only [fitsR, Bool.and_self]) [↓rules, rules, ↓rulesDp, rulesDq, lit_u64, Int.ofNat_inj, stops, q_int, q_bool, q_uint64, q_A4_uint64, q_api_Errno, q_reeveref11_Reply, q_S_reeveref22_Write, q_reeveref22_Desc, q_reeveref1_Geo, q_reeveref22_Write, hn]
    by_cases s0 : d.s = 0
    · simp (maxSteps := 1000000) (disch := first | assumption | omega | rfl | decide | simp only [fitsR, Bool.and_self]) [↓rules, rules, ↓rulesDp, rulesDq, lit_u64, Int.ofNat_inj, stops, q_int, q_bool, q_uint64, q_A4_uint64, q_api_Errno, q_reeveref11_Reply, q_S_reeveref22_Write, q_reeveref22_Desc, q_reeveref1_Geo, q_reeveref22_Write, s0]
      refine done_q hdom (by repeat first | exact Kept.refl hdom | refine Kept.new ?_ _ | refine Kept.drop ?_ (by omega) | refine Kept.put ?_ (by omega) (by omega) _ | refine Kept.skip ?_) ?_ ?_; · rfl
      rw [goodD_zero hg s0, hE]; rfl
    simp (maxSteps := 1000000) (disch := first | assumption | omega | rfl | decide | simp only [fitsR, Bool.and_self]) [↓rules, rules, ↓rulesDp, rulesDq, lit_u64, Int.ofNat_inj, stops, q_int, q_bool, q_uint64, q_A4_uint64, q_api_Errno, q_reeveref11_Reply, q_S_reeveref22_Write, q_reeveref22_Desc, q_reeveref1_Geo, q_reeveref22_Write, s0]
    by_cases s1 : d.s = 1
    · simp (maxSteps := 1000000) (disch := first | assumption | omega | rfl | decide | simp only [fitsR, Bool.and_self]) [↓rules, rules, ↓rulesDp, rulesDq, lit_u64, Int.ofNat_inj, stops, q_int, q_bool, q_uint64, q_A4_uint64, q_api_Errno, q_reeveref11_Reply, q_S_reeveref22_Write, q_reeveref22_Desc, q_reeveref1_Geo, q_reeveref22_Write, s1]
      refine done_q hdom (by repeat first | exact Kept.refl hdom | refine Kept.new ?_ _ | refine Kept.drop ?_ (by omega) | refine Kept.put ?_ (by omega) (by omega) _ | refine Kept.skip ?_) ?_ ?_; · rfl
      rw [goodD_empty (Or.inl s1) hE]; rfl
    simp (maxSteps := 1000000) (disch := first | assumption | omega | rfl | decide | simp only [fitsR, Bool.and_self]) [↓rules, rules, ↓rulesDp, rulesDq, lit_u64, Int.ofNat_inj, stops, q_int, q_bool, q_uint64, q_A4_uint64, q_api_Errno, q_reeveref11_Reply, q_S_reeveref22_Write, q_reeveref22_Desc, q_reeveref1_Geo, q_reeveref22_Write, s1]
    by_cases s4 : d.s = 4
    · simp (maxSteps := 1000000) (disch := first | assumption | omega | rfl | decide | simp only [fitsR, Bool.and_self]) [↓rules, rules, ↓rulesDp, rulesDq, lit_u64, Int.ofNat_inj, stops, q_int, q_bool, q_uint64, q_A4_uint64, q_api_Errno, q_reeveref11_Reply, q_S_reeveref22_Write, q_reeveref22_Desc, q_reeveref1_Geo, q_reeveref22_Write, s4]
      refine done_q hdom (by repeat first | exact Kept.refl hdom | refine Kept.new ?_ _ | refine Kept.drop ?_ (by omega) | refine Kept.put ?_ (by omega) (by omega) _ | refine Kept.skip ?_) ?_ ?_; · rfl
      rw [goodD_empty (Or.inr s4) hE]; rfl
    simp (maxSteps := 1000000) (disch := first | assumption | omega | rfl | decide | simp only [fitsR, Bool.and_self]) [↓rules, rules, ↓rulesDp, rulesDq, lit_u64, Int.ofNat_inj, stops, q_int, q_bool, q_uint64, q_A4_uint64, q_api_Errno, q_reeveref11_Reply, q_S_reeveref22_Write, q_reeveref22_Desc, q_reeveref1_Geo, q_reeveref22_Write, s4]
    have hR := goodD_rest (a := a) (b := b) (c := c) (d := d) (ws := ws) (by omega) (fun h => by omega)
    by_cases r1 : 1#64 ≤ d.q
    case neg =>
      simp (maxSteps := 1000000) (disch := first | assumption | omega | rfl | decide | simp only [fitsR, Bool.and_self]) [↓rules, rules, ↓rulesDp, rulesDq, lit_u64, Int.ofNat_inj, stops, q_int, q_bool, q_uint64, q_A4_uint64, q_api_Errno, q_reeveref11_Reply, q_S_reeveref22_Write, q_reeveref22_Desc, q_reeveref1_Geo, q_reeveref22_Write, r1]
      refine done_q hdom (by repeat first | exact Kept.refl hdom | refine Kept.new ?_ _ | refine Kept.drop ?_ (by omega) | refine Kept.put ?_ (by omega) (by omega) _ | refine Kept.skip ?_) ?_ ?_; · rfl
      rw [hR, seqOk, decide_eq_false r1, Bool.false_and, Bool.and_false]; rfl
    simp (maxSteps := 1000000) (disch := first | assumption | omega | rfl | decide | simp only [fitsR, Bool.and_self]) [↓rules, rules, ↓rulesDp, rulesDq, lit_u64, Int.ofNat_inj, stops, q_int, q_bool, q_uint64, q_A4_uint64, q_api_Errno, q_reeveref11_Reply, q_S_reeveref22_Write, q_reeveref22_Desc, q_reeveref1_Geo, q_reeveref22_Write, r1]
    by_cases r2 : d.q < 4294967296#64
    case neg =>
      simp (maxSteps := 1000000) (disch := first | assumption | omega | rfl | decide | simp only [fitsR, Bool.and_self]) [↓rules, rules, ↓rulesDp, rulesDq, lit_u64, Int.ofNat_inj, stops, q_int, q_bool, q_uint64, q_A4_uint64, q_api_Errno, q_reeveref11_Reply, q_S_reeveref22_Write, q_reeveref22_Desc, q_reeveref1_Geo, q_reeveref22_Write, r2]
      refine done_q hdom (by repeat first | exact Kept.refl hdom | refine Kept.new ?_ _ | refine Kept.drop ?_ (by omega) | refine Kept.put ?_ (by omega) (by omega) _ | refine Kept.skip ?_) ?_ ?_; · rfl
      rw [hR, seqOk, ← lt32_iff, decide_eq_false r2, Bool.and_false, Bool.and_false]; rfl
    simp (maxSteps := 1000000) (disch := first | assumption | omega | rfl | decide | simp only [fitsR, Bool.and_self]) [↓rules, rules, ↓rulesDp, rulesDq, lit_u64, Int.ofNat_inj, stops, q_int, q_bool, q_uint64, q_A4_uint64, q_api_Errno, q_reeveref11_Reply, q_S_reeveref22_Write, q_reeveref22_Desc, q_reeveref1_Geo, q_reeveref22_Write, r2]
    by_cases r3 : 0 ≤ d.e
    case neg =>
      simp (maxSteps := 1000000) (disch := first | assumption | omega | rfl | decide | simp only [fitsR, Bool.and_self]) [↓rules, rules, ↓rulesDp, rulesDq, lit_u64, Int.ofNat_inj, stops, q_int, q_bool, q_uint64, q_A4_uint64, q_api_Errno, q_reeveref11_Reply, q_S_reeveref22_Write, q_reeveref22_Desc, q_reeveref1_Geo, q_reeveref22_Write, r3]
      refine done_q hdom (by repeat first | exact Kept.refl hdom | refine Kept.new ?_ _ | refine Kept.drop ?_ (by omega) | refine Kept.put ?_ (by omega) (by omega) _ | refine Kept.skip ?_) ?_ ?_; · rfl
      rw [hR, show rangeD d = false from decide_eq_false (by omega), Bool.and_false, Bool.false_and]; rfl
    simp (maxSteps := 1000000) (disch := first | assumption | omega | rfl | decide | simp only [fitsR, Bool.and_self]) [↓rules, rules, ↓rulesDp, rulesDq, lit_u64, Int.ofNat_inj, stops, q_int, q_bool, q_uint64, q_A4_uint64, q_api_Errno, q_reeveref11_Reply, q_S_reeveref22_Write, q_reeveref22_Desc, q_reeveref1_Geo, q_reeveref22_Write, r3]
    by_cases r4 : d.e < 256
    case neg =>
      simp (maxSteps := 1000000) (disch := first | assumption | omega | rfl | decide | simp only [fitsR, Bool.and_self]) [↓rules, rules, ↓rulesDp, rulesDq, lit_u64, Int.ofNat_inj, stops, q_int, q_bool, q_uint64, q_A4_uint64, q_api_Errno, q_reeveref11_Reply, q_S_reeveref22_Write, q_reeveref22_Desc, q_reeveref1_Geo, q_reeveref22_Write, r4]
      refine done_q hdom (by repeat first | exact Kept.refl hdom | refine Kept.new ?_ _ | refine Kept.drop ?_ (by omega) | refine Kept.put ?_ (by omega) (by omega) _ | refine Kept.skip ?_) ?_ ?_; · rfl
      rw [hR, show rangeD d = false from decide_eq_false (by omega), Bool.and_false, Bool.false_and]; rfl
    simp (maxSteps := 1000000) (disch := first | assumption | omega | rfl | decide | simp only [fitsR, Bool.and_self]) [↓rules, rules, ↓rulesDp, rulesDq, lit_u64, Int.ofNat_inj, stops, q_int, q_bool, q_uint64, q_A4_uint64, q_api_Errno, q_reeveref11_Reply, q_S_reeveref22_Write, q_reeveref22_Desc, q_reeveref1_Geo, q_reeveref22_Write, r4]
    by_cases r5 : 0 ≤ d.n
    case neg =>
      simp (maxSteps := 1000000) (disch := first | assumption | omega | rfl | decide | simp only [fitsR, Bool.and_self]) [↓rules, rules, ↓rulesDp, rulesDq, lit_u64, Int.ofNat_inj, stops, q_int, q_bool, q_uint64, q_A4_uint64, q_api_Errno, q_reeveref11_Reply, q_S_reeveref22_Write, q_reeveref22_Desc, q_reeveref1_Geo, q_reeveref22_Write, r5]
      refine done_q hdom (by repeat first | exact Kept.refl hdom | refine Kept.new ?_ _ | refine Kept.drop ?_ (by omega) | refine Kept.put ?_ (by omega) (by omega) _ | refine Kept.skip ?_) ?_ ?_; · rfl
      rw [hR, show rangeD d = false from decide_eq_false (by omega), Bool.and_false, Bool.false_and]; rfl
    simp (maxSteps := 1000000) (disch := first | assumption | omega | rfl | decide | simp only [fitsR, Bool.and_self]) [↓rules, rules, ↓rulesDp, rulesDq, lit_u64, Int.ofNat_inj, stops, q_int, q_bool, q_uint64, q_A4_uint64, q_api_Errno, q_reeveref11_Reply, q_S_reeveref22_Write, q_reeveref22_Desc, q_reeveref1_Geo, q_reeveref22_Write, r5]
    by_cases r6 : d.n < 2147483648
    case neg =>
      simp (maxSteps := 1000000) (disch := first | assumption | omega | rfl | decide | simp only [fitsR, Bool.and_self]) [↓rules, rules, ↓rulesDp, rulesDq, lit_u64, Int.ofNat_inj, stops, q_int, q_bool, q_uint64, q_A4_uint64, q_api_Errno, q_reeveref11_Reply, q_S_reeveref22_Write, q_reeveref22_Desc, q_reeveref1_Geo, q_reeveref22_Write, r6]
      refine done_q hdom (by repeat first | exact Kept.refl hdom | refine Kept.new ?_ _ | refine Kept.drop ?_ (by omega) | refine Kept.put ?_ (by omega) (by omega) _ | refine Kept.skip ?_) ?_ ?_; · rfl
      rw [hR, show rangeD d = false from decide_eq_false (by omega), Bool.and_false, Bool.false_and]; rfl
    simp (maxSteps := 1000000) (disch := first | assumption | omega | rfl | decide | simp only [fitsR, Bool.and_self]) [↓rules, rules, ↓rulesDp, rulesDq, lit_u64, Int.ofNat_inj, stops, q_int, q_bool, q_uint64, q_A4_uint64, q_api_Errno, q_reeveref11_Reply, q_S_reeveref22_Write, q_reeveref22_Desc, q_reeveref1_Geo, q_reeveref22_Write, r6]
    refine rcall_quiet rfl (GoodWrites a b c _ ws _ _ hl hvk) ?_
    simp (maxSteps := 1000000) (disch := first | assumption | omega | rfl | decide | simp only [fitsR, Bool.and_self]) [↓rules, rules, ↓rulesDp, rulesDq, lit_u64, Int.ofNat_inj, stops, q_int, q_bool, q_uint64, q_A4_uint64, q_api_Errno, q_reeveref11_Reply, q_S_reeveref22_Write, q_reeveref22_Desc, q_reeveref1_Geo, q_reeveref22_Write]
    refine done_q hdom (by repeat first | exact Kept.refl hdom | refine Kept.new ?_ _ | refine Kept.drop ?_ (by omega) | refine Kept.put ?_ (by omega) (by omega) _ | refine Kept.skip ?_) ?_ ?_; · rfl
    rw [hR, seqOk, ← lt32_iff, decide_eq_true r1, decide_eq_true r2, show rangeD d = true from decide_eq_true (by omega)]; simp only [Bool.and_true]; rfl
end Go.Proofs.Ytafpgojoemcgnaa.F24
