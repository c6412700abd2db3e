/- Contracts of functions: what each one returns, and what it leaves. No statement is proved here. -/
import Derived.Test.YtafpgojoemcgnaaP24a
set_option linter.unusedVariables false
set_option linter.unusedSimpArgs false
namespace Go.Proofs.Ytafpgojoemcgnaa.F24
open Go Go.Proofs Go.Proofs.YtafpgojoemcgnaaAbs
set_option maxHeartbeats 8000000
set_option maxRecDepth 100000
/-- A descriptor, but for its writes. -/
structure De where
  s : Int
  q : BitVec 64
  l0 : BitVec 64
  l1 : BitVec 64
  l2 : BitVec 64
  l3 : BitVec 64
  e : Int
  w : BitVec 64
  n : Int
abbrev vD (d : De) (W : Value) : Value := .agg #[.int .i64 d.s, U d.q, U d.l0, U d.l1, U d.l2, U d.l3, .int .i64 d.e, U d.w, .int .i64 d.n, W]
abbrev cD (d : De) (W : Value) : List Value := [.int .i64 d.s, U d.q, U d.l0, U d.l1, U d.l2, U d.l3, .int .i64 d.e, U d.w, .int .i64 d.n, W]
def noR (d : De) : Bool := decide (d.e = 0) && (decide (d.w = 0#64) && decide (d.n = 0))
def noL (d : De) : Bool := decide (d.l0 = 0#64) && (decide (d.l1 = 0#64) && (decide (d.l2 = 0#64) && decide (d.l3 = 0#64)))
def seqOk (q : BitVec 64) : Bool := decide (1#64 ≤ q) && decide (q ≤ 4294967295#64)
def rangeD (d : De) : Bool := decide (0 ≤ d.e ∧ d.e ≤ 255 ∧ 0 ≤ d.n ∧ d.n ≤ 2147483647)
def goodD (a b c : Int) (d : De) (ws : List Wr) : Bool := goodW a b c ws && rangeD d &&
  (if d.s = 0 then noR d && decide (ws.length = 0) && decide (d.q = 0#64) && noL d
   else if d.s = 1 ∨ d.s = 4 then noR d && decide (ws.length = 0) && seqOk d.q
   else if d.s = 2 ∨ d.s = 3 then seqOk d.q else false)
theorem beq_R (xo yo : Operand) (d : De) : aBin Try.prog .eql T_state_Reply xo yo (.agg #[.int .i64 d.e, U d.w, .int .i64 d.n]) (.agg #[.int .i64 0, U 0#64, .int .i64 0]) = some (.bool (noR d)) := by
  have : cellsEq [.int .i64 d.e, U d.w, .int .i64 d.n] [.int .i64 0, U 0#64, .int .i64 0] = noR d := by simp only [cellsEq_cons, cellsEq_nil, cellEq_int, cellEq_U, noR, Bool.and_true]
  rw [← this]; exact bin_eql_agg te_state_Reply ta_state_Reply rfl rfl
theorem beq_L (xo yo : Operand) (d : De) : aBin Try.prog .eql T_A4_uint64 xo yo (.agg #[U d.l0, U d.l1, U d.l2, U d.l3]) (.agg #[U 0#64, U 0#64, U 0#64, U 0#64]) = some (.bool (noL d)) := by
  have : cellsEq [U d.l0, U d.l1, U d.l2, U d.l3] [U 0#64, U 0#64, U 0#64, U 0#64] = noL d := by simp only [cellsEq_cons, cellsEq_nil, cellEq_U, noL, Bool.and_true]
  rw [← this]; exact bin_eql_agg te_A4_uint64 ta_A4_uint64 rfl rfl
theorem opd_Good (a b c : Int) (d : De) (W : Value) (ws : List Wr) (g : AMem) (n : Nat) (hl : ws.length < 4611686018427387904) (hv : rdX g W ws) : FnC Try.prog f_opd_Good [gv a b c, vD d W] g n (fun _ => False) (.bool (goodD a b c d ws)) g n := by
  refine fnC_of_rwp t_opd_Good hm rfl fun hdom => ?_
  obtain ⟨va, ve, rfl⟩ := hv.form
  have hE : (noR d = false ∧ (noR d && decide (ws.length = 0)) = false) ∨ (noR d = true ∧ ws.length = 0 ∧ (noR d && decide (ws.length = 0)) = true) ∨ (noR d = true ∧ ¬ ws.length = 0 ∧ (noR d && decide (ws.length = 0)) = false) := by
    cases noR d
    · exact Or.inl ⟨rfl, rfl⟩
    · by_cases h : ws.length = 0
      · exact Or.inr (Or.inl ⟨rfl, h, by simp [h]⟩)
      · exact Or.inr (Or.inr ⟨rfl, h, by simp [h]⟩)
  have k0 : Kept g n (gset (gset (gset g n (some (.row [.int .i64 a, .int .i64 b, .int .i64 c] true))) (n + 1) (some (.row (cD d (.slice va ws.length ve)) true))) (n + 1 + 1) (some (.row [.int .i64 d.e, U d.w, .int .i64 d.n] true))) (n + 1 + 1 + 1) := (by repeat first | exact Kept.refl hdom | refine Kept.new ?_ _ | refine Kept.drop ?_ (by omega) | refine Kept.put ?_ (by omega) (by omega) _ | refine Kept.skip ?_)
  have hvk := hv.ext (k0.ext hdom)
  rcases hE with ⟨hN, hE⟩ | ⟨hN, h0, hE⟩ | ⟨hN, h0, hE⟩
  · simp (maxSteps := 1000000) (disch := first | assumption | omega | rfl | decide | simp only [fitsR, Bool.and_self]) [↓rules, rules, ↓rulesDp, rulesDq, lit_u64, Int.ofNat_inj, stops, rc_opd_Good, q_int, q_bool, q_uint64, q_A4_uint64, q_geo_Geo, q_api_Errno, q_state_Reply, q_S_wset_Write, q_opd_Desc, q_wset_Write, beq_R, hN]
    skip
    refine ⟨by omega, ?_⟩
    refine rcall_quiet rfl (wset_Good a b c _ ws _ _ hl hvk) ?_
    cases hw : goodW a b c ws
    · simp (maxSteps := 1000000) (disch := first | assumption | omega | rfl | decide | simp only [fitsR, Bool.and_self]) [↓rules, rules, ↓rulesDp, rulesDq, lit_u64, Int.ofNat_inj, stops, q_int, q_bool, q_uint64, q_A4_uint64, q_geo_Geo, q_api_Errno, q_state_Reply, q_S_wset_Write, q_opd_Desc, q_wset_Write]
      refine done_q hdom (by repeat first | exact Kept.refl hdom | refine Kept.new ?_ _ | refine Kept.drop ?_ (by omega) | refine Kept.put ?_ (by omega) (by omega) _ | refine Kept.skip ?_) ?_ ?_; · rfl
      rw [goodD, hw]; rfl
    simp (maxSteps := 1000000) (disch := first | assumption | omega | rfl | decide | simp only [fitsR, Bool.and_self]) [↓rules, rules, ↓rulesDp, rulesDq, lit_u64, Int.ofNat_inj, stops, q_int, q_bool, q_uint64, q_A4_uint64, q_geo_Geo, q_api_Errno, q_state_Reply, q_S_wset_Write, q_opd_Desc, q_wset_Write]
    by_cases c1 : d.e < 0
    · simp (maxSteps := 1000000) (disch := first | assumption | omega | rfl | decide | simp only [fitsR, Bool.and_self]) [↓rules, rules, ↓rulesDp, rulesDq, lit_u64, Int.ofNat_inj, stops, q_int, q_bool, q_uint64, q_A4_uint64, q_geo_Geo, q_api_Errno, q_state_Reply, q_S_wset_Write, q_opd_Desc, q_wset_Write, c1]
      refine done_q hdom (by repeat first | exact Kept.refl hdom | refine Kept.new ?_ _ | refine Kept.drop ?_ (by omega) | refine Kept.put ?_ (by omega) (by omega) _ | refine Kept.skip ?_) ?_ ?_; · rfl
      rw [goodD, show rangeD d = false from decide_eq_false (by omega), Bool.and_false]; rfl
    simp (maxSteps := 1000000) (disch := first | assumption | omega | rfl | decide | simp only [fitsR, Bool.and_self]) [↓rules, rules, ↓rulesDp, rulesDq, lit_u64, Int.ofNat_inj, stops, q_int, q_bool, q_uint64, q_A4_uint64, q_geo_Geo, q_api_Errno, q_state_Reply, q_S_wset_Write, q_opd_Desc, q_wset_Write, c1]
    by_cases c2 : 255 < d.e
    · simp (maxSteps := 1000000) (disch := first | assumption | omega | rfl | decide | simp only [fitsR, Bool.and_self]) [↓rules, rules, ↓rulesDp, rulesDq, lit_u64, Int.ofNat_inj, stops, q_int, q_bool, q_uint64, q_A4_uint64, q_geo_Geo, q_api_Errno, q_state_Reply, q_S_wset_Write, q_opd_Desc, q_wset_Write, c2]
      refine done_q hdom (by repeat first | exact Kept.refl hdom | refine Kept.new ?_ _ | refine Kept.drop ?_ (by omega) | refine Kept.put ?_ (by omega) (by omega) _ | refine Kept.skip ?_) ?_ ?_; · rfl
      rw [goodD, show rangeD d = false from decide_eq_false (by omega), Bool.and_false]; rfl
    simp (maxSteps := 1000000) (disch := first | assumption | omega | rfl | decide | simp only [fitsR, Bool.and_self]) [↓rules, rules, ↓rulesDp, rulesDq, lit_u64, Int.ofNat_inj, stops, q_int, q_bool, q_uint64, q_A4_uint64, q_geo_Geo, q_api_Errno, q_state_Reply, q_S_wset_Write, q_opd_Desc, q_wset_Write, c2]
    by_cases c3 : d.n < 0
    · simp (maxSteps := 1000000) (disch := first | assumption | omega | rfl | decide | simp only [fitsR, Bool.and_self]) [↓rules, rules, ↓rulesDp, rulesDq, lit_u64, Int.ofNat_inj, stops, q_int, q_bool, q_uint64, q_A4_uint64, q_geo_Geo, q_api_Errno, q_state_Reply, q_S_wset_Write, q_opd_Desc, q_wset_Write, c3]
      refine done_q hdom (by repeat first | exact Kept.refl hdom | refine Kept.new ?_ _ | refine Kept.drop ?_ (by omega) | refine Kept.put ?_ (by omega) (by omega) _ | refine Kept.skip ?_) ?_ ?_; · rfl
      rw [goodD, show rangeD d = false from decide_eq_false (by omega), Bool.and_false]; rfl
    simp (maxSteps := 1000000) (disch := first | assumption | omega | rfl | decide | simp only [fitsR, Bool.and_self]) [↓rules, rules, ↓rulesDp, rulesDq, lit_u64, Int.ofNat_inj, stops, q_int, q_bool, q_uint64, q_A4_uint64, q_geo_Geo, q_api_Errno, q_state_Reply, q_S_wset_Write, q_opd_Desc, q_wset_Write, c3]
    by_cases c4 : 2147483647 < d.n
    · simp (maxSteps := 1000000) (disch := first | assumption | omega | rfl | decide | simp only [fitsR, Bool.and_self]) [↓rules, rules, ↓rulesDp, rulesDq, lit_u64, Int.ofNat_inj, stops, q_int, q_bool, q_uint64, q_A4_uint64, q_geo_Geo, q_api_Errno, q_state_Reply, q_S_wset_Write, q_opd_Desc, q_wset_Write, c4]
      refine done_q hdom (by repeat first | exact Kept.refl hdom | refine Kept.new ?_ _ | refine Kept.drop ?_ (by omega) | refine Kept.put ?_ (by omega) (by omega) _ | refine Kept.skip ?_) ?_ ?_; · rfl
      rw [goodD, show rangeD d = false from decide_eq_false (by omega), Bool.and_false]; rfl
    have hg : goodD a b c d ws = if d.s = 0 then noR d && decide (ws.length = 0) && decide (d.q = 0#64) && noL d else if d.s = 1 ∨ d.s = 4 then noR d && decide (ws.length = 0) && seqOk d.q else if d.s = 2 ∨ d.s = 3 then seqOk d.q else false := by
      rw [goodD, hw, show rangeD d = true from decide_eq_true (by omega)]; rfl
    rw [hE] at hg
    simp (maxSteps := 1000000) (disch := first | assumption | omega | rfl | decide | simp only [fitsR, Bool.and_self]) [↓rules, rules, ↓rulesDp, rulesDq, lit_u64, Int.ofNat_inj, stops, q_int, q_bool, q_uint64, q_A4_uint64, q_geo_Geo, q_api_Errno, q_state_Reply, q_S_wset_Write, q_opd_Desc, q_wset_Write, c4]
    by_cases s0 : d.s = 0
    · rw [if_pos s0] at hg
      simp (maxSteps := 1000000) (disch := first | assumption | omega | rfl | decide | simp only [fitsR, Bool.and_self]) [↓rules, rules, ↓rulesDp, rulesDq, lit_u64, Int.ofNat_inj, stops, q_int, q_bool, q_uint64, q_A4_uint64, q_geo_Geo, q_api_Errno, q_state_Reply, q_S_wset_Write, q_opd_Desc, q_wset_Write, s0]
      refine done_q hdom (by repeat first | exact Kept.refl hdom | refine Kept.new ?_ _ | refine Kept.drop ?_ (by omega) | refine Kept.put ?_ (by omega) (by omega) _ | refine Kept.skip ?_) ?_ ?_; · rfl
      rw [hg]; rfl
    rw [if_neg s0] at hg
    simp (maxSteps := 1000000) (disch := first | assumption | omega | rfl | decide | simp only [fitsR, Bool.and_self]) [↓rules, rules, ↓rulesDp, rulesDq, lit_u64, Int.ofNat_inj, stops, q_int, q_bool, q_uint64, q_A4_uint64, q_geo_Geo, q_api_Errno, q_state_Reply, q_S_wset_Write, q_opd_Desc, q_wset_Write, s0]
    by_cases s1 : d.s = 1
    · rw [if_pos (Or.inl s1)] at hg
      simp (maxSteps := 1000000) (disch := first | assumption | omega | rfl | decide | simp only [fitsR, Bool.and_self]) [↓rules, rules, ↓rulesDp, rulesDq, lit_u64, Int.ofNat_inj, stops, q_int, q_bool, q_uint64, q_A4_uint64, q_geo_Geo, q_api_Errno, q_state_Reply, q_S_wset_Write, q_opd_Desc, q_wset_Write, s1]
      refine done_q hdom (by repeat first | exact Kept.refl hdom | refine Kept.new ?_ _ | refine Kept.drop ?_ (by omega) | refine Kept.put ?_ (by omega) (by omega) _ | refine Kept.skip ?_) ?_ ?_; · rfl
      rw [hg]; rfl
    simp (maxSteps := 1000000) (disch := first | assumption | omega | rfl | decide | simp only [fitsR, Bool.and_self]) [↓rules, rules, ↓rulesDp, rulesDq, lit_u64, Int.ofNat_inj, stops, q_int, q_bool, q_uint64, q_A4_uint64, q_geo_Geo, q_api_Errno, q_state_Reply, q_S_wset_Write, q_opd_Desc, q_wset_Write, s1]
    by_cases s4 : d.s = 4
    · rw [if_pos (Or.inr s4)] at hg
      simp (maxSteps := 1000000) (disch := first | assumption | omega | rfl | decide | simp only [fitsR, Bool.and_self]) [↓rules, rules, ↓rulesDp, rulesDq, lit_u64, Int.ofNat_inj, stops, q_int, q_bool, q_uint64, q_A4_uint64, q_geo_Geo, q_api_Errno, q_state_Reply, q_S_wset_Write, q_opd_Desc, q_wset_Write, s4]
      refine done_q hdom (by repeat first | exact Kept.refl hdom | refine Kept.new ?_ _ | refine Kept.drop ?_ (by omega) | refine Kept.put ?_ (by omega) (by omega) _ | refine Kept.skip ?_) ?_ ?_; · rfl
      rw [hg]; rfl
    simp (maxSteps := 1000000) (disch := first | assumption | omega | rfl | decide | simp only [fitsR, Bool.and_self]) [↓rules, rules, ↓rulesDp, rulesDq, lit_u64, Int.ofNat_inj, stops, q_int, q_bool, q_uint64, q_A4_uint64, q_geo_Geo, q_api_Errno, q_state_Reply, q_S_wset_Write, q_opd_Desc, q_wset_Write, s4]
    rw [if_neg (by omega)] at hg
    by_cases s2 : d.s = 2
    · rw [if_pos (Or.inl s2)] at hg
      simp (maxSteps := 1000000) (disch := first | assumption | omega | rfl | decide | simp only [fitsR, Bool.and_self]) [↓rules, rules, ↓rulesDp, rulesDq, lit_u64, Int.ofNat_inj, stops, q_int, q_bool, q_uint64, q_A4_uint64, q_geo_Geo, q_api_Errno, q_state_Reply, q_S_wset_Write, q_opd_Desc, q_wset_Write, s2]
      by_cases q1 : 1#64 ≤ d.q
      · simp (maxSteps := 1000000) (disch := first | assumption | omega | rfl | decide | simp only [fitsR, Bool.and_self]) [↓rules, rules, ↓rulesDp, rulesDq, lit_u64, Int.ofNat_inj, stops, q_int, q_bool, q_uint64, q_A4_uint64, q_geo_Geo, q_api_Errno, q_state_Reply, q_S_wset_Write, q_opd_Desc, q_wset_Write, q1]
        refine done_q hdom (by repeat first | exact Kept.refl hdom | refine Kept.new ?_ _ | refine Kept.drop ?_ (by omega) | refine Kept.put ?_ (by omega) (by omega) _ | refine Kept.skip ?_) ?_ ?_; · rfl
        rw [hg, seqOk, decide_eq_true q1]; rfl
      · simp (maxSteps := 1000000) (disch := first | assumption | omega | rfl | decide | simp only [fitsR, Bool.and_self]) [↓rules, rules, ↓rulesDp, rulesDq, lit_u64, Int.ofNat_inj, stops, q_int, q_bool, q_uint64, q_A4_uint64, q_geo_Geo, q_api_Errno, q_state_Reply, q_S_wset_Write, q_opd_Desc, q_wset_Write, q1]
        refine done_q hdom (by repeat first | exact Kept.refl hdom | refine Kept.new ?_ _ | refine Kept.drop ?_ (by omega) | refine Kept.put ?_ (by omega) (by omega) _ | refine Kept.skip ?_) ?_ ?_; · rfl
        rw [hg, seqOk, decide_eq_false q1]; rfl
    simp (maxSteps := 1000000) (disch := first | assumption | omega | rfl | decide | simp only [fitsR, Bool.and_self]) [↓rules, rules, ↓rulesDp, rulesDq, lit_u64, Int.ofNat_inj, stops, q_int, q_bool, q_uint64, q_A4_uint64, q_geo_Geo, q_api_Errno, q_state_Reply, q_S_wset_Write, q_opd_Desc, q_wset_Write, s2]
    by_cases s3 : d.s = 3
    · rw [if_pos (Or.inr s3)] at hg
      simp (maxSteps := 1000000) (disch := first | assumption | omega | rfl | decide | simp only [fitsR, Bool.and_self]) [↓rules, rules, ↓rulesDp, rulesDq, lit_u64, Int.ofNat_inj, stops, q_int, q_bool, q_uint64, q_A4_uint64, q_geo_Geo, q_api_Errno, q_state_Reply, q_S_wset_Write, q_opd_Desc, q_wset_Write, s3]
      by_cases q1 : 1#64 ≤ d.q
      · simp (maxSteps := 1000000) (disch := first | assumption | omega | rfl | decide | simp only [fitsR, Bool.and_self]) [↓rules, rules, ↓rulesDp, rulesDq, lit_u64, Int.ofNat_inj, stops, q_int, q_bool, q_uint64, q_A4_uint64, q_geo_Geo, q_api_Errno, q_state_Reply, q_S_wset_Write, q_opd_Desc, q_wset_Write, q1]
        refine done_q hdom (by repeat first | exact Kept.refl hdom | refine Kept.new ?_ _ | refine Kept.drop ?_ (by omega) | refine Kept.put ?_ (by omega) (by omega) _ | refine Kept.skip ?_) ?_ ?_; · rfl
        rw [hg, seqOk, decide_eq_true q1]; rfl
      · simp (maxSteps := 1000000) (disch := first | assumption | omega | rfl | decide | simp only [fitsR, Bool.and_self]) [↓rules, rules, ↓rulesDp, rulesDq, lit_u64, Int.ofNat_inj, stops, q_int, q_bool, q_uint64, q_A4_uint64, q_geo_Geo, q_api_Errno, q_state_Reply, q_S_wset_Write, q_opd_Desc, q_wset_Write, q1]
        refine done_q hdom (by repeat first | exact Kept.refl hdom | refine Kept.new ?_ _ | refine Kept.drop ?_ (by omega) | refine Kept.put ?_ (by omega) (by omega) _ | refine Kept.skip ?_) ?_ ?_; · rfl
        rw [hg, seqOk, decide_eq_false q1]; rfl
    simp (maxSteps := 1000000) (disch := first | assumption | omega | rfl | decide | simp only [fitsR, Bool.and_self]) [↓rules, rules, ↓rulesDp, rulesDq, lit_u64, Int.ofNat_inj, stops, q_int, q_bool, q_uint64, q_A4_uint64, q_geo_Geo, q_api_Errno, q_state_Reply, q_S_wset_Write, q_opd_Desc, q_wset_Write, s3]
    refine done_q hdom (by repeat first | exact Kept.refl hdom | refine Kept.new ?_ _ | refine Kept.drop ?_ (by omega) | refine Kept.put ?_ (by omega) (by omega) _ | refine Kept.skip ?_) ?_ ?_; · rfl
    rw [hg, if_neg (by omega)]; rfl
  · simp (maxSteps := 1000000) (disch := first | assumption | omega | rfl | decide | simp only [fitsR, Bool.and_self]) [↓rules, rules, ↓rulesDp, rulesDq, lit_u64, Int.ofNat_inj, stops, rc_opd_Good, q_int, q_bool, q_uint64, q_A4_uint64, q_geo_Geo, q_api_Errno, q_state_Reply, q_S_wset_Write, q_opd_Desc, q_wset_Write, beq_R, hN]
    have hn : ws = [] := List.length_eq_zero_iff.1 h0
    rw [show decide (ws = []) = true from decide_eq_true hn]
    refine ⟨by omega, ?_⟩
    refine rcall_quiet rfl (wset_Good a b c _ ws _ _ hl hvk) ?_
    cases hw : goodW a b c ws
    · simp (maxSteps := 1000000) (disch := first | assumption | omega | rfl | decide | simp only [fitsR, Bool.and_self]) [↓rules, rules, ↓rulesDp, rulesDq, lit_u64, Int.ofNat_inj, stops, q_int, q_bool, q_uint64, q_A4_uint64, q_geo_Geo, q_api_Errno, q_state_Reply, q_S_wset_Write, q_opd_Desc, q_wset_Write]
      refine done_q hdom (by repeat first | exact Kept.refl hdom | refine Kept.new ?_ _ | refine Kept.drop ?_ (by omega) | refine Kept.put ?_ (by omega) (by omega) _ | refine Kept.skip ?_) ?_ ?_; · rfl
      rw [goodD, hw]; rfl
    simp (maxSteps := 1000000) (disch := first | assumption | omega | rfl | decide | simp only [fitsR, Bool.and_self]) [↓rules, rules, ↓rulesDp, rulesDq, lit_u64, Int.ofNat_inj, stops, q_int, q_bool, q_uint64, q_A4_uint64, q_geo_Geo, q_api_Errno, q_state_Reply, q_S_wset_Write, q_opd_Desc, q_wset_Write]
    by_cases c1 : d.e < 0
    · simp (maxSteps := 1000000) (disch := first | assumption | omega | rfl | decide | simp only [fitsR, Bool.and_self]) [↓rules, rules, ↓rulesDp, rulesDq, lit_u64, Int.ofNat_inj, stops, q_int, q_bool, q_uint64, q_A4_uint64, q_geo_Geo, q_api_Errno, q_state_Reply, q_S_wset_Write, q_opd_Desc, q_wset_Write, c1]
      refine done_q hdom (by repeat first | exact Kept.refl hdom | refine Kept.new ?_ _ | refine Kept.drop ?_ (by omega) | refine Kept.put ?_ (by omega) (by omega) _ | refine Kept.skip ?_) ?_ ?_; · rfl
      rw [goodD, show rangeD d = false from decide_eq_false (by omega), Bool.and_false]; rfl
    simp (maxSteps := 1000000) (disch := first | assumption | omega | rfl | decide | simp only [fitsR, Bool.and_self]) [↓rules, rules, ↓rulesDp, rulesDq, lit_u64, Int.ofNat_inj, stops, q_int, q_bool, q_uint64, q_A4_uint64, q_geo_Geo, q_api_Errno, q_state_Reply, q_S_wset_Write, q_opd_Desc, q_wset_Write, c1]
    by_cases c2 : 255 < d.e
    · simp (maxSteps := 1000000) (disch := first | assumption | omega | rfl | decide | simp only [fitsR, Bool.and_self]) [↓rules, rules, ↓rulesDp, rulesDq, lit_u64, Int.ofNat_inj, stops, q_int, q_bool, q_uint64, q_A4_uint64, q_geo_Geo, q_api_Errno, q_state_Reply, q_S_wset_Write, q_opd_Desc, q_wset_Write, c2]
      refine done_q hdom (by repeat first | exact Kept.refl hdom | refine Kept.new ?_ _ | refine Kept.drop ?_ (by omega) | refine Kept.put ?_ (by omega) (by omega) _ | refine Kept.skip ?_) ?_ ?_; · rfl
      rw [goodD, show rangeD d = false from decide_eq_false (by omega), Bool.and_false]; rfl
    simp (maxSteps := 1000000) (disch := first | assumption | omega | rfl | decide | simp only [fitsR, Bool.and_self]) [↓rules, rules, ↓rulesDp, rulesDq, lit_u64, Int.ofNat_inj, stops, q_int, q_bool, q_uint64, q_A4_uint64, q_geo_Geo, q_api_Errno, q_state_Reply, q_S_wset_Write, q_opd_Desc, q_wset_Write, c2]
    by_cases c3 : d.n < 0
    · simp (maxSteps := 1000000) (disch := first | assumption | omega | rfl | decide | simp only [fitsR, Bool.and_self]) [↓rules, rules, ↓rulesDp, rulesDq, lit_u64, Int.ofNat_inj, stops, q_int, q_bool, q_uint64, q_A4_uint64, q_geo_Geo, q_api_Errno, q_state_Reply, q_S_wset_Write, q_opd_Desc, q_wset_Write, c3]
      refine done_q hdom (by repeat first | exact Kept.refl hdom | refine Kept.new ?_ _ | refine Kept.drop ?_ (by omega) | refine Kept.put ?_ (by omega) (by omega) _ | refine Kept.skip ?_) ?_ ?_; · rfl
      rw [goodD, show rangeD d = false from decide_eq_false (by omega), Bool.and_false]; rfl
    simp (maxSteps := 1000000) (disch := first | assumption | omega | rfl | decide | simp only [fitsR, Bool.and_self]) [↓rules, rules, ↓rulesDp, rulesDq, lit_u64, Int.ofNat_inj, stops, q_int, q_bool, q_uint64, q_A4_uint64, q_geo_Geo, q_api_Errno, q_state_Reply, q_S_wset_Write, q_opd_Desc, q_wset_Write, c3]
    by_cases c4 : 2147483647 < d.n
    · simp (maxSteps := 1000000) (disch := first | assumption | omega | rfl | decide | simp only [fitsR, Bool.and_self]) [↓rules, rules, ↓rulesDp, rulesDq, lit_u64, Int.ofNat_inj, stops, q_int, q_bool, q_uint64, q_A4_uint64, q_geo_Geo, q_api_Errno, q_state_Reply, q_S_wset_Write, q_opd_Desc, q_wset_Write, c4]
      refine done_q hdom (by repeat first | exact Kept.refl hdom | refine Kept.new ?_ _ | refine Kept.drop ?_ (by omega) | refine Kept.put ?_ (by omega) (by omega) _ | refine Kept.skip ?_) ?_ ?_; · rfl
      rw [goodD, show rangeD d = false from decide_eq_false (by omega), Bool.and_false]; rfl
    have hg : goodD a b c d ws = if d.s = 0 then noR d && decide (ws.length = 0) && decide (d.q = 0#64) && noL d else if d.s = 1 ∨ d.s = 4 then noR d && decide (ws.length = 0) && seqOk d.q else if d.s = 2 ∨ d.s = 3 then seqOk d.q else false := by
      rw [goodD, hw, show rangeD d = true from decide_eq_true (by omega)]; rfl
    rw [hE] at hg
    simp (maxSteps := 1000000) (disch := first | assumption | omega | rfl | decide | simp only [fitsR, Bool.and_self]) [↓rules, rules, ↓rulesDp, rulesDq, lit_u64, Int.ofNat_inj, stops, q_int, q_bool, q_uint64, q_A4_uint64, q_geo_Geo, q_api_Errno, q_state_Reply, q_S_wset_Write, q_opd_Desc, q_wset_Write, c4]
    by_cases s0 : d.s = 0
    · rw [if_pos s0] at hg
      simp (maxSteps := 1000000) (disch := first | assumption | omega | rfl | decide | simp only [fitsR, Bool.and_self]) [↓rules, rules, ↓rulesDp, rulesDq, lit_u64, Int.ofNat_inj, stops, q_int, q_bool, q_uint64, q_A4_uint64, q_geo_Geo, q_api_Errno, q_state_Reply, q_S_wset_Write, q_opd_Desc, q_wset_Write, s0]
      by_cases q0 : d.q = 0#64
      · simp (maxSteps := 1000000) (disch := first | assumption | omega | rfl | decide | simp only [fitsR, Bool.and_self]) [↓rules, rules, ↓rulesDp, rulesDq, lit_u64, Int.ofNat_inj, stops, q_int, q_bool, q_uint64, q_A4_uint64, q_geo_Geo, q_api_Errno, q_state_Reply, q_S_wset_Write, q_opd_Desc, q_wset_Write, q0, beq_L]
        refine done_q hdom (by repeat first | exact Kept.refl hdom | refine Kept.new ?_ _ | refine Kept.drop ?_ (by omega) | refine Kept.put ?_ (by omega) (by omega) _ | refine Kept.skip ?_) ?_ ?_; · rfl
        rw [hg, q0]; rfl
      · simp (maxSteps := 1000000) (disch := first | assumption | omega | rfl | decide | simp only [fitsR, Bool.and_self]) [↓rules, rules, ↓rulesDp, rulesDq, lit_u64, Int.ofNat_inj, stops, q_int, q_bool, q_uint64, q_A4_uint64, q_geo_Geo, q_api_Errno, q_state_Reply, q_S_wset_Write, q_opd_Desc, q_wset_Write, q0]
        refine done_q hdom (by repeat first | exact Kept.refl hdom | refine Kept.new ?_ _ | refine Kept.drop ?_ (by omega) | refine Kept.put ?_ (by omega) (by omega) _ | refine Kept.skip ?_) ?_ ?_; · rfl
        rw [hg, decide_eq_false q0]; rfl
    rw [if_neg s0] at hg
    simp (maxSteps := 1000000) (disch := first | assumption | omega | rfl | decide | simp only [fitsR, Bool.and_self]) [↓rules, rules, ↓rulesDp, rulesDq, lit_u64, Int.ofNat_inj, stops, q_int, q_bool, q_uint64, q_A4_uint64, q_geo_Geo, q_api_Errno, q_state_Reply, q_S_wset_Write, q_opd_Desc, q_wset_Write, s0]
    by_cases s1 : d.s = 1
    · rw [if_pos (Or.inl s1)] at hg
      simp (maxSteps := 1000000) (disch := first | assumption | omega | rfl | decide | simp only [fitsR, Bool.and_self]) [↓rules, rules, ↓rulesDp, rulesDq, lit_u64, Int.ofNat_inj, stops, q_int, q_bool, q_uint64, q_A4_uint64, q_geo_Geo, q_api_Errno, q_state_Reply, q_S_wset_Write, q_opd_Desc, q_wset_Write, s1]
      by_cases q1 : 1#64 ≤ d.q
      · simp (maxSteps := 1000000) (disch := first | assumption | omega | rfl | decide | simp only [fitsR, Bool.and_self]) [↓rules, rules, ↓rulesDp, rulesDq, lit_u64, Int.ofNat_inj, stops, q_int, q_bool, q_uint64, q_A4_uint64, q_geo_Geo, q_api_Errno, q_state_Reply, q_S_wset_Write, q_opd_Desc, q_wset_Write, q1]
        refine done_q hdom (by repeat first | exact Kept.refl hdom | refine Kept.new ?_ _ | refine Kept.drop ?_ (by omega) | refine Kept.put ?_ (by omega) (by omega) _ | refine Kept.skip ?_) ?_ ?_; · rfl
        rw [hg, seqOk, decide_eq_true q1]; rfl
      · simp (maxSteps := 1000000) (disch := first | assumption | omega | rfl | decide | simp only [fitsR, Bool.and_self]) [↓rules, rules, ↓rulesDp, rulesDq, lit_u64, Int.ofNat_inj, stops, q_int, q_bool, q_uint64, q_A4_uint64, q_geo_Geo, q_api_Errno, q_state_Reply, q_S_wset_Write, q_opd_Desc, q_wset_Write, q1]
        refine done_q hdom (by repeat first | exact Kept.refl hdom | refine Kept.new ?_ _ | refine Kept.drop ?_ (by omega) | refine Kept.put ?_ (by omega) (by omega) _ | refine Kept.skip ?_) ?_ ?_; · rfl
        rw [hg, seqOk, decide_eq_false q1]; rfl
    simp (maxSteps := 1000000) (disch := first | assumption | omega | rfl | decide | simp only [fitsR, Bool.and_self]) [↓rules, rules, ↓rulesDp, rulesDq, lit_u64, Int.ofNat_inj, stops, q_int, q_bool, q_uint64, q_A4_uint64, q_geo_Geo, q_api_Errno, q_state_Reply, q_S_wset_Write, q_opd_Desc, q_wset_Write, s1]
    by_cases s4 : d.s = 4
    · rw [if_pos (Or.inr s4)] at hg
      simp (maxSteps := 1000000) (disch := first | assumption | omega | rfl | decide | simp only [fitsR, Bool.and_self]) [↓rules, rules, ↓rulesDp, rulesDq, lit_u64, Int.ofNat_inj, stops, q_int, q_bool, q_uint64, q_A4_uint64, q_geo_Geo, q_api_Errno, q_state_Reply, q_S_wset_Write, q_opd_Desc, q_wset_Write, s4]
      by_cases q1 : 1#64 ≤ d.q
      · simp (maxSteps := 1000000) (disch := first | assumption | omega | rfl | decide | simp only [fitsR, Bool.and_self]) [↓rules, rules, ↓rulesDp, rulesDq, lit_u64, Int.ofNat_inj, stops, q_int, q_bool, q_uint64, q_A4_uint64, q_geo_Geo, q_api_Errno, q_state_Reply, q_S_wset_Write, q_opd_Desc, q_wset_Write, q1]
        refine done_q hdom (by repeat first | exact Kept.refl hdom | refine Kept.new ?_ _ | refine Kept.drop ?_ (by omega) | refine Kept.put ?_ (by omega) (by omega) _ | refine Kept.skip ?_) ?_ ?_; · rfl
        rw [hg, seqOk, decide_eq_true q1]; rfl
      · simp (maxSteps := 1000000) (disch := first | assumption | omega | rfl | decide | simp only [fitsR, Bool.and_self]) [↓rules, rules, ↓rulesDp, rulesDq, lit_u64, Int.ofNat_inj, stops, q_int, q_bool, q_uint64, q_A4_uint64, q_geo_Geo, q_api_Errno, q_state_Reply, q_S_wset_Write, q_opd_Desc, q_wset_Write, q1]
        refine done_q hdom (by repeat first | exact Kept.refl hdom | refine Kept.new ?_ _ | refine Kept.drop ?_ (by omega) | refine Kept.put ?_ (by omega) (by omega) _ | refine Kept.skip ?_) ?_ ?_; · rfl
        rw [hg, seqOk, decide_eq_false q1]; rfl
    simp (maxSteps := 1000000) (disch := first | assumption | omega | rfl | decide | simp only [fitsR, Bool.and_self]) [↓rules, rules, ↓rulesDp, rulesDq, lit_u64, Int.ofNat_inj, stops, q_int, q_bool, q_uint64, q_A4_uint64, q_geo_Geo, q_api_Errno, q_state_Reply, q_S_wset_Write, q_opd_Desc, q_wset_Write, s4]
    rw [if_neg (by omega)] at hg
    by_cases s2 : d.s = 2
    · rw [if_pos (Or.inl s2)] at hg
      simp (maxSteps := 1000000) (disch := first | assumption | omega | rfl | decide | simp only [fitsR, Bool.and_self]) [↓rules, rules, ↓rulesDp, rulesDq, lit_u64, Int.ofNat_inj, stops, q_int, q_bool, q_uint64, q_A4_uint64, q_geo_Geo, q_api_Errno, q_state_Reply, q_S_wset_Write, q_opd_Desc, q_wset_Write, s2]
      by_cases q1 : 1#64 ≤ d.q
      · simp (maxSteps := 1000000) (disch := first | assumption | omega | rfl | decide | simp only [fitsR, Bool.and_self]) [↓rules, rules, ↓rulesDp, rulesDq, lit_u64, Int.ofNat_inj, stops, q_int, q_bool, q_uint64, q_A4_uint64, q_geo_Geo, q_api_Errno, q_state_Reply, q_S_wset_Write, q_opd_Desc, q_wset_Write, q1]
        refine done_q hdom (by repeat first | exact Kept.refl hdom | refine Kept.new ?_ _ | refine Kept.drop ?_ (by omega) | refine Kept.put ?_ (by omega) (by omega) _ | refine Kept.skip ?_) ?_ ?_; · rfl
        rw [hg, seqOk, decide_eq_true q1]; rfl
      · simp (maxSteps := 1000000) (disch := first | assumption | omega | rfl | decide | simp only [fitsR, Bool.and_self]) [↓rules, rules, ↓rulesDp, rulesDq, lit_u64, Int.ofNat_inj, stops, q_int, q_bool, q_uint64, q_A4_uint64, q_geo_Geo, q_api_Errno, q_state_Reply, q_S_wset_Write, q_opd_Desc, q_wset_Write, q1]
        refine done_q hdom (by repeat first | exact Kept.refl hdom | refine Kept.new ?_ _ | refine Kept.drop ?_ (by omega) | refine Kept.put ?_ (by omega) (by omega) _ | refine Kept.skip ?_) ?_ ?_; · rfl
        rw [hg, seqOk, decide_eq_false q1]; rfl
    simp (maxSteps := 1000000) (disch := first | assumption | omega | rfl | decide | simp only [fitsR, Bool.and_self]) [↓rules, rules, ↓rulesDp, rulesDq, lit_u64, Int.ofNat_inj, stops, q_int, q_bool, q_uint64, q_A4_uint64, q_geo_Geo, q_api_Errno, q_state_Reply, q_S_wset_Write, q_opd_Desc, q_wset_Write, s2]
    by_cases s3 : d.s = 3
    · rw [if_pos (Or.inr s3)] at hg
      simp (maxSteps := 1000000) (disch := first | assumption | omega | rfl | decide | simp only [fitsR, Bool.and_self]) [↓rules, rules, ↓rulesDp, rulesDq, lit_u64, Int.ofNat_inj, stops, q_int, q_bool, q_uint64, q_A4_uint64, q_geo_Geo, q_api_Errno, q_state_Reply, q_S_wset_Write, q_opd_Desc, q_wset_Write, s3]
      by_cases q1 : 1#64 ≤ d.q
      · simp (maxSteps := 1000000) (disch := first | assumption | omega | rfl | decide | simp only [fitsR, Bool.and_self]) [↓rules, rules, ↓rulesDp, rulesDq, lit_u64, Int.ofNat_inj, stops, q_int, q_bool, q_uint64, q_A4_uint64, q_geo_Geo, q_api_Errno, q_state_Reply, q_S_wset_Write, q_opd_Desc, q_wset_Write, q1]
        refine done_q hdom (by repeat first | exact Kept.refl hdom | refine Kept.new ?_ _ | refine Kept.drop ?_ (by omega) | refine Kept.put ?_ (by omega) (by omega) _ | refine Kept.skip ?_) ?_ ?_; · rfl
        rw [hg, seqOk, decide_eq_true q1]; rfl
      · simp (maxSteps := 1000000) (disch := first | assumption | omega | rfl | decide | simp only [fitsR, Bool.and_self]) [↓rules, rules, ↓rulesDp, rulesDq, lit_u64, Int.ofNat_inj, stops, q_int, q_bool, q_uint64, q_A4_uint64, q_geo_Geo, q_api_Errno, q_state_Reply, q_S_wset_Write, q_opd_Desc, q_wset_Write, q1]
        refine done_q hdom (by repeat first | exact Kept.refl hdom | refine Kept.new ?_ _ | refine Kept.drop ?_ (by omega) | refine Kept.put ?_ (by omega) (by omega) _ | refine Kept.skip ?_) ?_ ?_; · rfl
        rw [hg, seqOk, decide_eq_false q1]; rfl
    simp (maxSteps := 1000000) (disch := first | assumption | omega | rfl | decide | simp only [fitsR, Bool.and_self]) [↓rules, rules, ↓rulesDp, rulesDq, lit_u64, Int.ofNat_inj, stops, q_int, q_bool, q_uint64, q_A4_uint64, q_geo_Geo, q_api_Errno, q_state_Reply, q_S_wset_Write, q_opd_Desc, q_wset_Write, s3]
    refine done_q hdom (by repeat first | exact Kept.refl hdom | refine Kept.new ?_ _ | refine Kept.drop ?_ (by omega) | refine Kept.put ?_ (by omega) (by omega) _ | refine Kept.skip ?_) ?_ ?_; · rfl
    rw [hg, if_neg (by omega)]; rfl
  · simp (maxSteps := 1000000) (disch := first | assumption | omega | rfl | decide | simp only [fitsR, Bool.and_self]) [↓rules, rules, ↓rulesDp, rulesDq, lit_u64, Int.ofNat_inj, stops, rc_opd_Good, q_int, q_bool, q_uint64, q_A4_uint64, q_geo_Geo, q_api_Errno, q_state_Reply, q_S_wset_Write, q_opd_Desc, q_wset_Write, beq_R, hN]
    have hn : ¬ ws = [] := fun h => h0 (by rw [h]; rfl)
    try rw [show decide (ws = []) = false from decide_eq_false hn]
    refine ⟨by omega, ?_⟩
    refine rcall_quiet rfl (wset_Good a b c _ ws _ _ hl hvk) ?_
    cases hw : goodW a b c ws
    · simp (maxSteps := 1000000) (disch := first | assumption | omega | rfl | decide | simp only [fitsR, Bool.and_self]) [↓rules, rules, ↓rulesDp, rulesDq, lit_u64, Int.ofNat_inj, stops, q_int, q_bool, q_uint64, q_A4_uint64, q_geo_Geo, q_api_Errno, q_state_Reply, q_S_wset_Write, q_opd_Desc, q_wset_Write]
      refine done_q hdom (by repeat first | exact Kept.refl hdom | refine Kept.new ?_ _ | refine Kept.drop ?_ (by omega) | refine Kept.put ?_ (by omega) (by omega) _ | refine Kept.skip ?_) ?_ ?_; · rfl
      rw [goodD, hw]; rfl
    simp (maxSteps := 1000000) (disch := first | assumption | omega | rfl | decide | simp only [fitsR, Bool.and_self]) [↓rules, rules, ↓rulesDp, rulesDq, lit_u64, Int.ofNat_inj, stops, q_int, q_bool, q_uint64, q_A4_uint64, q_geo_Geo, q_api_Errno, q_state_Reply, q_S_wset_Write, q_opd_Desc, q_wset_Write]
    by_cases c1 : d.e < 0
    · simp (maxSteps := 1000000) (disch := first | assumption | omega | rfl | decide | simp only [fitsR, Bool.and_self]) [↓rules, rules, ↓rulesDp, rulesDq, lit_u64, Int.ofNat_inj, stops, q_int, q_bool, q_uint64, q_A4_uint64, q_geo_Geo, q_api_Errno, q_state_Reply, q_S_wset_Write, q_opd_Desc, q_wset_Write, c1]
      refine done_q hdom (by repeat first | exact Kept.refl hdom | refine Kept.new ?_ _ | refine Kept.drop ?_ (by omega) | refine Kept.put ?_ (by omega) (by omega) _ | refine Kept.skip ?_) ?_ ?_; · rfl
      rw [goodD, show rangeD d = false from decide_eq_false (by omega), Bool.and_false]; rfl
    simp (maxSteps := 1000000) (disch := first | assumption | omega | rfl | decide | simp only [fitsR, Bool.and_self]) [↓rules, rules, ↓rulesDp, rulesDq, lit_u64, Int.ofNat_inj, stops, q_int, q_bool, q_uint64, q_A4_uint64, q_geo_Geo, q_api_Errno, q_state_Reply, q_S_wset_Write, q_opd_Desc, q_wset_Write, c1]
    by_cases c2 : 255 < d.e
    · simp (maxSteps := 1000000) (disch := first | assumption | omega | rfl | decide | simp only [fitsR, Bool.and_self]) [↓rules, rules, ↓rulesDp, rulesDq, lit_u64, Int.ofNat_inj, stops, q_int, q_bool, q_uint64, q_A4_uint64, q_geo_Geo, q_api_Errno, q_state_Reply, q_S_wset_Write, q_opd_Desc, q_wset_Write, c2]
      refine done_q hdom (by repeat first | exact Kept.refl hdom | refine Kept.new ?_ _ | refine Kept.drop ?_ (by omega) | refine Kept.put ?_ (by omega) (by omega) _ | refine Kept.skip ?_) ?_ ?_; · rfl
      rw [goodD, show rangeD d = false from decide_eq_false (by omega), Bool.and_false]; rfl
    simp (maxSteps := 1000000) (disch := first | assumption | omega | rfl | decide | simp only [fitsR, Bool.and_self]) [↓rules, rules, ↓rulesDp, rulesDq, lit_u64, Int.ofNat_inj, stops, q_int, q_bool, q_uint64, q_A4_uint64, q_geo_Geo, q_api_Errno, q_state_Reply, q_S_wset_Write, q_opd_Desc, q_wset_Write, c2]
    by_cases c3 : d.n < 0
    · simp (maxSteps := 1000000) (disch := first | assumption | omega | rfl | decide | simp only [fitsR, Bool.and_self]) [↓rules, rules, ↓rulesDp, rulesDq, lit_u64, Int.ofNat_inj, stops, q_int, q_bool, q_uint64, q_A4_uint64, q_geo_Geo, q_api_Errno, q_state_Reply, q_S_wset_Write, q_opd_Desc, q_wset_Write, c3]
      refine done_q hdom (by repeat first | exact Kept.refl hdom | refine Kept.new ?_ _ | refine Kept.drop ?_ (by omega) | refine Kept.put ?_ (by omega) (by omega) _ | refine Kept.skip ?_) ?_ ?_; · rfl
      rw [goodD, show rangeD d = false from decide_eq_false (by omega), Bool.and_false]; rfl
    simp (maxSteps := 1000000) (disch := first | assumption | omega | rfl | decide | simp only [fitsR, Bool.and_self]) [↓rules, rules, ↓rulesDp, rulesDq, lit_u64, Int.ofNat_inj, stops, q_int, q_bool, q_uint64, q_A4_uint64, q_geo_Geo, q_api_Errno, q_state_Reply, q_S_wset_Write, q_opd_Desc, q_wset_Write, c3]
    by_cases c4 : 2147483647 < d.n
    · simp (maxSteps := 1000000) (disch := first | assumption | omega | rfl | decide | simp only [fitsR, Bool.and_self]) [↓rules, rules, ↓rulesDp, rulesDq, lit_u64, Int.ofNat_inj, stops, q_int, q_bool, q_uint64, q_A4_uint64, q_geo_Geo, q_api_Errno, q_state_Reply, q_S_wset_Write, q_opd_Desc, q_wset_Write, c4]
      refine done_q hdom (by repeat first | exact Kept.refl hdom | refine Kept.new ?_ _ | refine Kept.drop ?_ (by omega) | refine Kept.put ?_ (by omega) (by omega) _ | refine Kept.skip ?_) ?_ ?_; · rfl
      rw [goodD, show rangeD d = false from decide_eq_false (by omega), Bool.and_false]; rfl
    have hg : goodD a b c d ws = if d.s = 0 then noR d && decide (ws.length = 0) && decide (d.q = 0#64) && noL d else if d.s = 1 ∨ d.s = 4 then noR d && decide (ws.length = 0) && seqOk d.q else if d.s = 2 ∨ d.s = 3 then seqOk d.q else false := by
      rw [goodD, hw, show rangeD d = true from decide_eq_true (by omega)]; rfl
    rw [hE] at hg
    simp (maxSteps := 1000000) (disch := first | assumption | omega | rfl | decide | simp only [fitsR, Bool.and_self]) [↓rules, rules, ↓rulesDp, rulesDq, lit_u64, Int.ofNat_inj, stops, q_int, q_bool, q_uint64, q_A4_uint64, q_geo_Geo, q_api_Errno, q_state_Reply, q_S_wset_Write, q_opd_Desc, q_wset_Write, c4]
    by_cases s0 : d.s = 0
    · rw [if_pos s0] at hg
      simp (maxSteps := 1000000) (disch := first | assumption | omega | rfl | decide | simp only [fitsR, Bool.and_self]) [↓rules, rules, ↓rulesDp, rulesDq, lit_u64, Int.ofNat_inj, stops, q_int, q_bool, q_uint64, q_A4_uint64, q_geo_Geo, q_api_Errno, q_state_Reply, q_S_wset_Write, q_opd_Desc, q_wset_Write, s0]
      refine done_q hdom (by repeat first | exact Kept.refl hdom | refine Kept.new ?_ _ | refine Kept.drop ?_ (by omega) | refine Kept.put ?_ (by omega) (by omega) _ | refine Kept.skip ?_) ?_ ?_; · rfl
      rw [hg]; rfl
    rw [if_neg s0] at hg
    simp (maxSteps := 1000000) (disch := first | assumption | omega | rfl | decide | simp only [fitsR, Bool.and_self]) [↓rules, rules, ↓rulesDp, rulesDq, lit_u64, Int.ofNat_inj, stops, q_int, q_bool, q_uint64, q_A4_uint64, q_geo_Geo, q_api_Errno, q_state_Reply, q_S_wset_Write, q_opd_Desc, q_wset_Write, s0]
    by_cases s1 : d.s = 1
    · rw [if_pos (Or.inl s1)] at hg
      simp (maxSteps := 1000000) (disch := first | assumption | omega | rfl | decide | simp only [fitsR, Bool.and_self]) [↓rules, rules, ↓rulesDp, rulesDq, lit_u64, Int.ofNat_inj, stops, q_int, q_bool, q_uint64, q_A4_uint64, q_geo_Geo, q_api_Errno, q_state_Reply, q_S_wset_Write, q_opd_Desc, q_wset_Write, s1]
      refine done_q hdom (by repeat first | exact Kept.refl hdom | refine Kept.new ?_ _ | refine Kept.drop ?_ (by omega) | refine Kept.put ?_ (by omega) (by omega) _ | refine Kept.skip ?_) ?_ ?_; · rfl
      rw [hg]; rfl
    simp (maxSteps := 1000000) (disch := first | assumption | omega | rfl | decide | simp only [fitsR, Bool.and_self]) [↓rules, rules, ↓rulesDp, rulesDq, lit_u64, Int.ofNat_inj, stops, q_int, q_bool, q_uint64, q_A4_uint64, q_geo_Geo, q_api_Errno, q_state_Reply, q_S_wset_Write, q_opd_Desc, q_wset_Write, s1]
    by_cases s4 : d.s = 4
    · rw [if_pos (Or.inr s4)] at hg
      simp (maxSteps := 1000000) (disch := first | assumption | omega | rfl | decide | simp only [fitsR, Bool.and_self]) [↓rules, rules, ↓rulesDp, rulesDq, lit_u64, Int.ofNat_inj, stops, q_int, q_bool, q_uint64, q_A4_uint64, q_geo_Geo, q_api_Errno, q_state_Reply, q_S_wset_Write, q_opd_Desc, q_wset_Write, s4]
      refine done_q hdom (by repeat first | exact Kept.refl hdom | refine Kept.new ?_ _ | refine Kept.drop ?_ (by omega) | refine Kept.put ?_ (by omega) (by omega) _ | refine Kept.skip ?_) ?_ ?_; · rfl
      rw [hg]; rfl
    simp (maxSteps := 1000000) (disch := first | assumption | omega | rfl | decide | simp only [fitsR, Bool.and_self]) [↓rules, rules, ↓rulesDp, rulesDq, lit_u64, Int.ofNat_inj, stops, q_int, q_bool, q_uint64, q_A4_uint64, q_geo_Geo, q_api_Errno, q_state_Reply, q_S_wset_Write, q_opd_Desc, q_wset_Write, s4]
    rw [if_neg (by omega)] at hg
    by_cases s2 : d.s = 2
    · rw [if_pos (Or.inl s2)] at hg
      simp (maxSteps := 1000000) (disch := first | assumption | omega | rfl | decide | simp only [fitsR, Bool.and_self]) [↓rules, rules, ↓rulesDp, rulesDq, lit_u64, Int.ofNat_inj, stops, q_int, q_bool, q_uint64, q_A4_uint64, q_geo_Geo, q_api_Errno, q_state_Reply, q_S_wset_Write, q_opd_Desc, q_wset_Write, s2]
      by_cases q1 : 1#64 ≤ d.q
      · simp (maxSteps := 1000000) (disch := first | assumption | omega | rfl | decide | simp only [fitsR, Bool.and_self]) [↓rules, rules, ↓rulesDp, rulesDq, lit_u64, Int.ofNat_inj, stops, q_int, q_bool, q_uint64, q_A4_uint64, q_geo_Geo, q_api_Errno, q_state_Reply, q_S_wset_Write, q_opd_Desc, q_wset_Write, q1]
        refine done_q hdom (by repeat first | exact Kept.refl hdom | refine Kept.new ?_ _ | refine Kept.drop ?_ (by omega) | refine Kept.put ?_ (by omega) (by omega) _ | refine Kept.skip ?_) ?_ ?_; · rfl
        rw [hg, seqOk, decide_eq_true q1]; rfl
      · simp (maxSteps := 1000000) (disch := first | assumption | omega | rfl | decide | simp only [fitsR, Bool.and_self]) [↓rules, rules, ↓rulesDp, rulesDq, lit_u64, Int.ofNat_inj, stops, q_int, q_bool, q_uint64, q_A4_uint64, q_geo_Geo, q_api_Errno, q_state_Reply, q_S_wset_Write, q_opd_Desc, q_wset_Write, q1]
        refine done_q hdom (by repeat first | exact Kept.refl hdom | refine Kept.new ?_ _ | refine Kept.drop ?_ (by omega) | refine Kept.put ?_ (by omega) (by omega) _ | refine Kept.skip ?_) ?_ ?_; · rfl
        rw [hg, seqOk, decide_eq_false q1]; rfl
    simp (maxSteps := 1000000) (disch := first | assumption | omega | rfl | decide | simp only [fitsR, Bool.and_self]) [↓rules, rules, ↓rulesDp, rulesDq, lit_u64, Int.ofNat_inj, stops, q_int, q_bool, q_uint64, q_A4_uint64, q_geo_Geo, q_api_Errno, q_state_Reply, q_S_wset_Write, q_opd_Desc, q_wset_Write, s2]
    by_cases s3 : d.s = 3
    · rw [if_pos (Or.inr s3)] at hg
      simp (maxSteps := 1000000) (disch := first | assumption | omega | rfl | decide | simp only [fitsR, Bool.and_self]) [↓rules, rules, ↓rulesDp, rulesDq, lit_u64, Int.ofNat_inj, stops, q_int, q_bool, q_uint64, q_A4_uint64, q_geo_Geo, q_api_Errno, q_state_Reply, q_S_wset_Write, q_opd_Desc, q_wset_Write, s3]
      by_cases q1 : 1#64 ≤ d.q
      · simp (maxSteps := 1000000) (disch := first | assumption | omega | rfl | decide | simp only [fitsR, Bool.and_self]) [↓rules, rules, ↓rulesDp, rulesDq, lit_u64, Int.ofNat_inj, stops, q_int, q_bool, q_uint64, q_A4_uint64, q_geo_Geo, q_api_Errno, q_state_Reply, q_S_wset_Write, q_opd_Desc, q_wset_Write, q1]
        refine done_q hdom (by repeat first | exact Kept.refl hdom | refine Kept.new ?_ _ | refine Kept.drop ?_ (by omega) | refine Kept.put ?_ (by omega) (by omega) _ | refine Kept.skip ?_) ?_ ?_; · rfl
        rw [hg, seqOk, decide_eq_true q1]; rfl
      · simp (maxSteps := 1000000) (disch := first | assumption | omega | rfl | decide | simp only [fitsR, Bool.and_self]) [↓rules, rules, ↓rulesDp, rulesDq, lit_u64, Int.ofNat_inj, stops, q_int, q_bool, q_uint64, q_A4_uint64, q_geo_Geo, q_api_Errno, q_state_Reply, q_S_wset_Write, q_opd_Desc, q_wset_Write, q1]
        refine done_q hdom (by repeat first | exact Kept.refl hdom | refine Kept.new ?_ _ | refine Kept.drop ?_ (by omega) | refine Kept.put ?_ (by omega) (by omega) _ | refine Kept.skip ?_) ?_ ?_; · rfl
        rw [hg, seqOk, decide_eq_false q1]; rfl
    simp (maxSteps := 1000000) (disch := first | assumption | omega | rfl | decide | simp only [fitsR, Bool.and_self]) [↓rules, rules, ↓rulesDp, rulesDq, lit_u64, Int.ofNat_inj, stops, q_int, q_bool, q_uint64, q_A4_uint64, q_geo_Geo, q_api_Errno, q_state_Reply, q_S_wset_Write, q_opd_Desc, q_wset_Write, s3]
    refine done_q hdom (by repeat first | exact Kept.refl hdom | refine Kept.new ?_ _ | refine Kept.drop ?_ (by omega) | refine Kept.put ?_ (by omega) (by omega) _ | refine Kept.skip ?_) ?_ ?_; · rfl
    rw [hg, if_neg (by omega)]; rfl
end Go.Proofs.Ytafpgojoemcgnaa.F24
