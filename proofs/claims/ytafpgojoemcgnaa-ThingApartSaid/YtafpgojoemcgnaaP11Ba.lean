/- Contracts of functions: what each one returns, and what it leaves. No statement is proved here. -/
import Derived.Test.YtafpgojoemcgnaaP11a
set_option linter.unusedVariables false
set_option linter.unusedSimpArgs false
namespace Go.Proofs.Ytafpgojoemcgnaa.F11
open Go Go.Proofs Go.Proofs.YtafpgojoemcgnaaAbs
set_option maxHeartbeats 8000000
set_option maxRecDepth 100000
theorem newT_cost (k s b : Int) : newT k s b = if (costT k s).2 = true ∧ goodT (mkT k s b) = true then (mkT k s b, true) else (noT, false) := by
  obtain ⟨p1, p2⟩ := newT_says k s b
  by_cases h : (costT k s).2 = true ∧ goodT (mkT k s b) = true
  · rw [if_pos h]
    cases c : (newT k s b).2
    · exfalso
      have hk : 1 ≤ k ∧ k ≤ 5 := by
        have h1 := h.1
        unfold costT at h1
        repeat' split at h1
        all_goals first | (cases h1; done) | omega
      unfold newT at c
      rw [if_pos ⟨hk.1, hk.2, h.2⟩] at c; cases c
    · exact Prod.ext (p2 c).1 c
  · rw [if_neg h]
    cases c : (newT k s b).2
    · exact Prod.ext (p1 c).1 c
    · exact absurd ⟨(p2 c).2.1, (p2 c).2.2.2.1⟩ h
theorem ref_NewThing (k s b : Int) (g : AMem) (n : Nat) : FnC Try.prog f_reeveref11_NewThing [.int .i64 k, .int .i64 s, .int .i64 b] g n (fun _ => False) (.tuple #[vT (newT k s b).1, .bool (newT k s b).2]) g n := by
  refine fnC_of_rwp t_reeveref11_NewThing hm rfl fun hdom => ?_
  rw [newT_cost]
  simp (maxSteps := 1000000) (disch := first | assumption | omega | rfl | decide | simp only [fitsR, Bool.and_self]) [↓rules, rules, ↓rulesDp, rulesDq, lit_u64, Int.ofNat_inj, rc_reeveref11_NewThing, q_int, q_bool, q_uint64, q_A4_uint64, q_reeveref11_Thing]
  refine rcall_quiet rfl (ref_Cost _ _ _ _) ?_
  by_cases c1 : k = 1
  · subst c1
    cases c : (costT 1 s).2
    · simp (maxSteps := 1000000) (disch := first | assumption | omega | rfl | decide | simp only [fitsR, Bool.and_self]) [↓rules, rules, ↓rulesDp, rulesDq, lit_u64, Int.ofNat_inj, q_int, q_bool, q_uint64, q_A4_uint64, q_reeveref11_Thing, c]
      refine done_q hdom (by repeat first | exact Kept.refl hdom | refine Kept.new ?_ _ | refine Kept.drop ?_ (by omega) | refine Kept.put ?_ (by omega) (by omega) _ | refine Kept.skip ?_) rfl ?_
      simp (maxSteps := 1000000) (disch := first | assumption | omega | rfl | decide | simp only [fitsR, Bool.and_self]) [↓rules, rules, ↓rulesDp, rulesDq, lit_u64, Int.ofNat_inj, aResults, aRes, q_int, q_bool, q_uint64, q_A4_uint64, q_reeveref11_Thing, noT]
    simp (maxSteps := 1000000) (disch := first | assumption | omega | rfl | decide | simp only [fitsR, Bool.and_self]) [↓rules, rules, ↓rulesDp, rulesDq, lit_u64, Int.ofNat_inj, q_int, q_bool, q_uint64, q_A4_uint64, q_reeveref11_Thing, c]
    refine rcall_quiet rfl (ref_GoodThing ⟨1, 0, 0, s, 0, 0, 0, false, 0#64, 0#64, 0#64, 0#64, 0#64⟩ _ _) ?_
    rw [show mkT 1 s b = ⟨1, 0, 0, s, 0, 0, 0, false, 0#64, 0#64, 0#64, 0#64, 0#64⟩ from rfl]
    cases c2 : goodT ⟨1, 0, 0, s, 0, 0, 0, false, 0#64, 0#64, 0#64, 0#64, 0#64⟩
    · simp (maxSteps := 1000000) (disch := first | assumption | omega | rfl | decide | simp only [fitsR, Bool.and_self]) [↓rules, rules, ↓rulesDp, rulesDq, lit_u64, Int.ofNat_inj, q_int, q_bool, q_uint64, q_A4_uint64, q_reeveref11_Thing]
      refine done_q hdom (by repeat first | exact Kept.refl hdom | refine Kept.new ?_ _ | refine Kept.drop ?_ (by omega) | refine Kept.put ?_ (by omega) (by omega) _ | refine Kept.skip ?_) rfl ?_
      simp (maxSteps := 1000000) (disch := first | assumption | omega | rfl | decide | simp only [fitsR, Bool.and_self]) [↓rules, rules, ↓rulesDp, rulesDq, lit_u64, Int.ofNat_inj, aResults, aRes, q_int, q_bool, q_uint64, q_A4_uint64, q_reeveref11_Thing, noT]
    · simp (maxSteps := 1000000) (disch := first | assumption | omega | rfl | decide | simp only [fitsR, Bool.and_self]) [↓rules, rules, ↓rulesDp, rulesDq, lit_u64, Int.ofNat_inj, q_int, q_bool, q_uint64, q_A4_uint64, q_reeveref11_Thing]
      refine done_q hdom (by repeat first | exact Kept.refl hdom | refine Kept.new ?_ _ | refine Kept.drop ?_ (by omega) | refine Kept.put ?_ (by omega) (by omega) _ | refine Kept.skip ?_) rfl ?_
      simp (maxSteps := 1000000) (disch := first | assumption | omega | rfl | decide | simp only [fitsR, Bool.and_self]) [↓rules, rules, ↓rulesDp, rulesDq, lit_u64, Int.ofNat_inj, aResults, aRes, q_int, q_bool, q_uint64, q_A4_uint64, q_reeveref11_Thing, noT]
  by_cases c1' : k = 2
  · subst c1'
    cases c : (costT 2 s).2
    · simp (maxSteps := 1000000) (disch := first | assumption | omega | rfl | decide | simp only [fitsR, Bool.and_self]) [↓rules, rules, ↓rulesDp, rulesDq, lit_u64, Int.ofNat_inj, q_int, q_bool, q_uint64, q_A4_uint64, q_reeveref11_Thing, c]
      refine done_q hdom (by repeat first | exact Kept.refl hdom | refine Kept.new ?_ _ | refine Kept.drop ?_ (by omega) | refine Kept.put ?_ (by omega) (by omega) _ | refine Kept.skip ?_) rfl ?_
      simp (maxSteps := 1000000) (disch := first | assumption | omega | rfl | decide | simp only [fitsR, Bool.and_self]) [↓rules, rules, ↓rulesDp, rulesDq, lit_u64, Int.ofNat_inj, aResults, aRes, q_int, q_bool, q_uint64, q_A4_uint64, q_reeveref11_Thing, noT]
    simp (maxSteps := 1000000) (disch := first | assumption | omega | rfl | decide | simp only [fitsR, Bool.and_self]) [↓rules, rules, ↓rulesDp, rulesDq, lit_u64, Int.ofNat_inj, q_int, q_bool, q_uint64, q_A4_uint64, q_reeveref11_Thing, c]
    refine rcall_quiet rfl (ref_GoodThing ⟨2, s, b, 0, 0, 0, 0, false, 0#64, 0#64, 0#64, 0#64, 0#64⟩ _ _) ?_
    rw [show mkT 2 s b = ⟨2, s, b, 0, 0, 0, 0, false, 0#64, 0#64, 0#64, 0#64, 0#64⟩ from rfl]
    cases c2 : goodT ⟨2, s, b, 0, 0, 0, 0, false, 0#64, 0#64, 0#64, 0#64, 0#64⟩
    · simp (maxSteps := 1000000) (disch := first | assumption | omega | rfl | decide | simp only [fitsR, Bool.and_self]) [↓rules, rules, ↓rulesDp, rulesDq, lit_u64, Int.ofNat_inj, q_int, q_bool, q_uint64, q_A4_uint64, q_reeveref11_Thing]
      refine done_q hdom (by repeat first | exact Kept.refl hdom | refine Kept.new ?_ _ | refine Kept.drop ?_ (by omega) | refine Kept.put ?_ (by omega) (by omega) _ | refine Kept.skip ?_) rfl ?_
      simp (maxSteps := 1000000) (disch := first | assumption | omega | rfl | decide | simp only [fitsR, Bool.and_self]) [↓rules, rules, ↓rulesDp, rulesDq, lit_u64, Int.ofNat_inj, aResults, aRes, q_int, q_bool, q_uint64, q_A4_uint64, q_reeveref11_Thing, noT]
    · simp (maxSteps := 1000000) (disch := first | assumption | omega | rfl | decide | simp only [fitsR, Bool.and_self]) [↓rules, rules, ↓rulesDp, rulesDq, lit_u64, Int.ofNat_inj, q_int, q_bool, q_uint64, q_A4_uint64, q_reeveref11_Thing]
      refine done_q hdom (by repeat first | exact Kept.refl hdom | refine Kept.new ?_ _ | refine Kept.drop ?_ (by omega) | refine Kept.put ?_ (by omega) (by omega) _ | refine Kept.skip ?_) rfl ?_
      simp (maxSteps := 1000000) (disch := first | assumption | omega | rfl | decide | simp only [fitsR, Bool.and_self]) [↓rules, rules, ↓rulesDp, rulesDq, lit_u64, Int.ofNat_inj, aResults, aRes, q_int, q_bool, q_uint64, q_A4_uint64, q_reeveref11_Thing, noT]
  have e : mkT k s b = ⟨k, 0, 0, 0, 0, 0, 0, false, 0#64, 0#64, 0#64, 0#64, 0#64⟩ := by simp [mkT, c1, c1', noT]
  rw [e]
  cases c : (costT k s).2
  · simp (maxSteps := 1000000) (disch := first | assumption | omega | rfl | decide | simp only [fitsR, Bool.and_self]) [↓rules, rules, ↓rulesDp, rulesDq, lit_u64, Int.ofNat_inj, q_int, q_bool, q_uint64, q_A4_uint64, q_reeveref11_Thing, c, c1, c1']
    refine done_q hdom (by repeat first | exact Kept.refl hdom | refine Kept.new ?_ _ | refine Kept.drop ?_ (by omega) | refine Kept.put ?_ (by omega) (by omega) _ | refine Kept.skip ?_) rfl ?_
    simp (maxSteps := 1000000) (disch := first | assumption | omega | rfl | decide | simp only [fitsR, Bool.and_self]) [↓rules, rules, ↓rulesDp, rulesDq, lit_u64, Int.ofNat_inj, aResults, aRes, q_int, q_bool, q_uint64, q_A4_uint64, q_reeveref11_Thing, noT]
  simp (maxSteps := 1000000) (disch := first | assumption | omega | rfl | decide | simp only [fitsR, Bool.and_self]) [↓rules, rules, ↓rulesDp, rulesDq, lit_u64, Int.ofNat_inj, q_int, q_bool, q_uint64, q_A4_uint64, q_reeveref11_Thing, c, c1, c1']
  refine rcall_quiet rfl (ref_GoodThing ⟨k, 0, 0, 0, 0, 0, 0, false, 0#64, 0#64, 0#64, 0#64, 0#64⟩ _ _) ?_
  cases c2 : goodT ⟨k, 0, 0, 0, 0, 0, 0, false, 0#64, 0#64, 0#64, 0#64, 0#64⟩
  · simp (maxSteps := 1000000) (disch := first | assumption | omega | rfl | decide | simp only [fitsR, Bool.and_self]) [↓rules, rules, ↓rulesDp, rulesDq, lit_u64, Int.ofNat_inj, q_int, q_bool, q_uint64, q_A4_uint64, q_reeveref11_Thing]
    refine done_q hdom (by repeat first | exact Kept.refl hdom | refine Kept.new ?_ _ | refine Kept.drop ?_ (by omega) | refine Kept.put ?_ (by omega) (by omega) _ | refine Kept.skip ?_) rfl ?_
    simp (maxSteps := 1000000) (disch := first | assumption | omega | rfl | decide | simp only [fitsR, Bool.and_self]) [↓rules, rules, ↓rulesDp, rulesDq, lit_u64, Int.ofNat_inj, aResults, aRes, q_int, q_bool, q_uint64, q_A4_uint64, q_reeveref11_Thing, noT]
  · simp (maxSteps := 1000000) (disch := first | assumption | omega | rfl | decide | simp only [fitsR, Bool.and_self]) [↓rules, rules, ↓rulesDp, rulesDq, lit_u64, Int.ofNat_inj, q_int, q_bool, q_uint64, q_A4_uint64, q_reeveref11_Thing]
    refine done_q hdom (by repeat first | exact Kept.refl hdom | refine Kept.new ?_ _ | refine Kept.drop ?_ (by omega) | refine Kept.put ?_ (by omega) (by omega) _ | refine Kept.skip ?_) rfl ?_
    simp (maxSteps := 1000000) (disch := first | assumption | omega | rfl | decide | simp only [fitsR, Bool.and_self]) [↓rules, rules, ↓rulesDp, rulesDq, lit_u64, Int.ofNat_inj, aResults, aRes, q_int, q_bool, q_uint64, q_A4_uint64, q_reeveref11_Thing, noT]
theorem fq {w x : BitVec 64} {p q : Nat} (hx : x.toNat = w.toNat / 2 ^ p % 2 ^ q) (hq : q ≤ 32) : IntKind.i64.wrap (uI x) = fld w p q := by
  have h : w.toNat / 2 ^ p % 2 ^ q < 4294967296 := Nat.lt_of_lt_of_le (Nat.mod_lt _ (Nat.pow_pos (by decide))) (Nat.le_trans (Nat.pow_le_pow_right (by decide) hq) (by decide))
  unfold uI fld
  rw [hx, wrap_i64 (by omega) (by omega)]
theorem putT_good {t : Th} (h : putT t ≠ []) : putT t = wordsT t := by
  unfold putT at h ⊢
  split
  · rfl
  · rename_i hn; rw [if_neg hn] at h; exact absurd rfl h
theorem ref_GetThing (v : Value) (l : List (BitVec 64)) (g : AMem) (n : Nat) (hl : l.length < 4611686018427387904) (hv : rdW g v l) : FnC Try.prog f_reeveref11_GetThing [v] g n (fun _ => False) (.tuple #[vT (getT l).1, .bool (getT l).2]) g n := by
  refine fnC_of_rwp t_reeveref11_GetThing hm rfl fun hdom => ?_
  obtain ⟨a, e', hvf⟩ := hv.form
  by_cases c : l.length = 8
  case neg =>
    have c' : ¬ (l.length : Int) = 8 := by omega
    simp (maxSteps := 1000000) (disch := first | assumption | omega | rfl | decide | simp only [fitsR, Bool.and_self]) [↓rules, rules, ↓rulesDp, rulesDq, lit_u64, Int.ofNat_inj, rc_reeveref11_GetThing, q_int, q_bool, q_uint64, q_A4_uint64, q_S_uint64, q_reeveref11_Thing, hvf, c']
    refine done_q hdom (by repeat first | exact Kept.refl hdom | refine Kept.new ?_ _ | refine Kept.drop ?_ (by omega) | refine Kept.put ?_ (by omega) (by omega) _ | refine Kept.skip ?_) rfl ?_
    rw [getT_len c]
    simp (maxSteps := 1000000) (disch := first | assumption | omega | rfl | decide | simp only [fitsR, Bool.and_self]) [↓rules, rules, ↓rulesDp, rulesDq, lit_u64, Int.ofNat_inj, aResults, aRes, q_int, q_bool, q_uint64, q_A4_uint64, q_S_uint64, q_reeveref11_Thing, noT]
  obtain ⟨x0, x1, x2, x3, x4, x5, x6, x7, rfl⟩ := list8 l c
  obtain ⟨b, o, cs, r, hvs, hbg, hel⟩ := rd_nths (f := U) hv (by simp)
  have hbn := hdom b (by rw [hbg]; simp)
  have hv0 := hvs
  subst hvs
  have e0 := hel 0 (by simp); have e1 := hel 1 (by simp); have e2 := hel 2 (by simp); have e3 := hel 3 (by simp); have e4 := hel 4 (by simp); have e5 := hel 5 (by simp); have e6 := hel 6 (by simp)
  simp only [Nat.add_zero, List.getElem_cons_zero, List.getElem_cons_succ] at e0 e1 e2 e3 e4 e5 e6
  have a0 : IntKind.i64.wrap (uI (x0 % 256#64)) = fld x0 0 8 := fq (by simp) (by decide)
  have a1 : IntKind.i64.wrap (uI (x0 / 256#64 % 256#64)) = fld x0 8 8 := fq (by simp) (by decide)
  have a2 : IntKind.i64.wrap (uI (x0 / 65536#64 % 256#64)) = fld x0 16 8 := fq (by simp) (by decide)
  have a4 : IntKind.i64.wrap (uI (x0 / 65536#64 / 65536#64 % 256#64)) = fld x0 32 8 := fq (by simp [Nat.div_div_eq_div_mul]) (by decide)
  have a3 : decide (x0 / 65536#64 / 256#64 % 256#64 = 1#64) = decide (fld x0 24 8 = 1) := by
    have hx : (x0 / 65536#64 / 256#64 % 256#64).toNat = x0.toNat / 2 ^ 24 % 2 ^ 8 := by simp [Nat.div_div_eq_div_mul]
    rw [decide_eq_decide]
    unfold fld
    rw [← hx]
    constructor
    · intro h; rw [h]; rfl
    · intro h; apply BitVec.eq_of_toNat_eq
      show (x0 / 65536#64 / 256#64 % 256#64).toNat = 1
      omega
  have b0 : IntKind.i64.wrap (uI (x1 % 65536#64)) = fld x1 0 16 := fq (by simp) (by decide)
  have b1 : IntKind.i64.wrap (uI (x1 / 65536#64 % 65536#64)) = fld x1 16 16 := fq (by simp) (by decide)
  have b2 : IntKind.i64.wrap (uI (x1 / 65536#64 / 65536#64 % 65536#64)) = fld x1 32 16 := fq (by simp [Nat.div_div_eq_div_mul]) (by decide)
  simp (maxSteps := 1000000) (disch := first | assumption | omega | rfl | decide | simp only [fitsR, Bool.and_self]) [↓rules, rules, ↓rulesDp, rulesDq, lit_u64, Int.ofNat_inj, rc_reeveref11_GetThing, q_int, q_bool, q_uint64, q_A4_uint64, q_S_uint64, q_reeveref11_Thing, hbg, e0, e1, e2, e3, e4, e5, e6, conv_of_u64 tu_uint64 tu_int, a0, a1, a2, a3, a4, b0, b1, b2]
  have k1 : Kept g n (gset (gset g n (some (.row (cT noT) true))) (n + 1) (some (.row (cT (decT x0 x1 x2 x3 x4 x5 x6)) true))) (n + 1 + 1) := ((Kept.refl hdom).new _).new _
  refine rcall_spec (ref_PutThing (decT x0 x1 x2 x3 x4 x5 x6) _ _ k1.dom) rfl (fun _ h => h.elim) rfl fun vp gp np ⟨rp, kp⟩ => ?_
  have hn0 := kp.same n (by omega)
  have hn1 := kp.same (n + 1) (by omega)
  rw [gset, if_neg (by omega), gset, if_pos rfl] at hn0
  rw [gset, if_pos rfl] at hn1
  try simp only [cT, decT, noT] at hn0 hn1
  have lp := kp.le
  obtain ⟨ap, ep, hvp⟩ := rp.form
  by_cases cl : putT (decT x0 x1 x2 x3 x4 x5 x6) = []
  · have hne : ¬ putT (decT x0 x1 x2 x3 x4 x5 x6) = [x0, x1, x2, x3, x4, x5, x6, x7] := by rw [cl]; simp
    rw [cl] at hvp
    simp (maxSteps := 1000000) (disch := first | assumption | omega | rfl | decide | simp only [fitsR, Bool.and_self]) [↓rules, rules, ↓rulesDp, rulesDq, lit_u64, Int.ofNat_inj, q_int, q_bool, q_uint64, q_A4_uint64, q_S_uint64, q_reeveref11_Thing, hvp, hn0]
    refine done_q hdom (by repeat first | exact k1.trans kp | refine Kept.new ?_ _ | refine Kept.drop ?_ (by omega) | refine Kept.put ?_ (by omega) (by omega) _ | refine Kept.skip ?_) rfl ?_
    rw [getT, if_neg hne]
    simp (maxSteps := 1000000) (disch := first | assumption | omega | rfl | decide | simp only [fitsR, Bool.and_self]) [↓rules, rules, ↓rulesDp, rulesDq, lit_u64, Int.ofNat_inj, aResults, aRes, q_int, q_bool, q_uint64, q_A4_uint64, q_S_uint64, q_reeveref11_Thing, noT]
  have hlen : (putT (decT x0 x1 x2 x3 x4 x5 x6)).length = 8 := by rw [putT_good cl]; rfl
  rw [hlen] at hvp
  simp (maxSteps := 1000000) (disch := first | assumption | omega | rfl | decide | simp only [fitsR, Bool.and_self]) [↓rules, rules, ↓rulesDp, rulesDq, lit_u64, Int.ofNat_inj, q_int, q_bool, q_uint64, q_A4_uint64, q_S_uint64, q_reeveref11_Thing, hvp]
  rw [← hvp]
  have hv2 := (hv.ext (k1.ext hdom)).ext (kp.ext k1.dom)
  refine rwp_loop (fun m l' g' n' => ∃ i : Nat, m = 8 - i ∧ i ≤ 8 ∧ g' = gp ∧ n' = np ∧ (putT (decT x0 x1 x2 x3 x4 x5 x6)).take i = [x0, x1, x2, x3, x4, x5, x6, x7].take i ∧ l' = [(0, .slice (some ⟨b, o, none⟩) 8 1), (2, .pointer (some ⟨n, 0, none⟩)), (6, .pointer (some ⟨n + 1, 0, none⟩)), (7, vp), (8, .int .i64 i)]) ?_ (k := 8) ?_
  · rintro m l' g' n' ⟨i, rfl, hi, rfl, rfl, he, rfl⟩
    simp (maxSteps := 1000000) (disch := first | assumption | omega | rfl | decide | simp only [fitsR, Bool.and_self]) [↓rules, rules, ↓rulesDp, rulesDq, lit_u64, Int.ofNat_inj, rc_reeveref11_GetThingl0]
    refine rcond_dec (fun hlt => ?_) (fun hlt => ?_)
    · have hlt1 : i < (putT (decT x0 x1 x2 x3 x4 x5 x6)).length := by omega
      have hlt2 : i < [x0, x1, x2, x3, x4, x5, x6, x7].length := by simp; omega
      obtain ⟨b1, o1, h1, _, h2⟩ := rp.one hlt1
      obtain ⟨b2, o2, h3, _, h4⟩ := hv2.one hlt2
      have e1 := h2 g' (Ext.refl _) Try.prog _ ta_uint64
      have e2 := h4 g' (Ext.refl _) Try.prog _ ta_uint64
      simp only [Value.slice.injEq, Option.some.injEq, Addr.mk.injEq] at h3
      obtain ⟨⟨rfl, rfl, _⟩, _⟩ := h3
      rw [hlen] at h1
      simp (maxSteps := 1000000) (disch := first | assumption | omega | rfl | decide) [↓rules, rules, lit_u64, aEval_U, splice_nil, splice_zero, splice_step, gset_gset, Int.ofNat_inj, U_junk, U_cells, U_cellOk, ub_and, ub_or, ub_xor, ub_andNot, ub_add, ub_sub, ub_mul, ub_shl, ub_shr, ub_shl', ub_shr', ub_eql, ub_neq, ub_lss, ub_leq, ub_gtr, ub_geq, h1, q_int, q_bool, q_uint64, q_A4_uint64, q_S_uint64, q_reeveref11_Thing, e1, e2, hlt]
      have htake : ∀ (zs : List (BitVec 64)) (h : i < zs.length), zs.take (i + 1) = zs.take i ++ [zs[i]] := fun zs h => by rw [List.take_add_one, List.getElem?_eq_getElem h]; rfl
      refine rcond_bool (fun cc => ?_) (fun cc => ?_)
      · have cc : (putT (decT x0 x1 x2 x3 x4 x5 x6))[i] ≠ [x0, x1, x2, x3, x4, x5, x6, x7][i] := by simpa using cc
        have hne : ¬ putT (decT x0 x1 x2 x3 x4 x5 x6) = [x0, x1, x2, x3, x4, x5, x6, x7] := fun h => cc (by simp only [h])
        simp (maxSteps := 1000000) (disch := first | assumption | omega | rfl | decide | simp only [fitsR, Bool.and_self]) [↓rules, rules, ↓rulesDp, rulesDq, lit_u64, Int.ofNat_inj, q_int, q_bool, q_uint64, q_A4_uint64, q_S_uint64, q_reeveref11_Thing, hn0]
        refine done_q hdom (by repeat first | exact k1.trans kp | refine Kept.new ?_ _ | refine Kept.drop ?_ (by omega) | refine Kept.put ?_ (by omega) (by omega) _ | refine Kept.skip ?_) rfl ?_
        rw [getT, if_neg hne]
        simp (maxSteps := 1000000) (disch := first | assumption | omega | rfl | decide | simp only [fitsR, Bool.and_self]) [↓rules, rules, ↓rulesDp, rulesDq, lit_u64, Int.ofNat_inj, aResults, aRes, q_int, q_bool, q_uint64, q_A4_uint64, q_S_uint64, q_reeveref11_Thing, noT]
      · have cc : (putT (decT x0 x1 x2 x3 x4 x5 x6))[i] = [x0, x1, x2, x3, x4, x5, x6, x7][i] := by simpa using cc
        refine ⟨8 - (i + 1), by omega, i + 1, rfl, by omega, ?_, ?_⟩
        · rw [htake _ hlt1, htake _ hlt2, he, cc]
        · rw [wrap_i64 (by omega) (by omega)]; omega
    · have : i = 8 := by omega
      subst this
      have heq : putT (decT x0 x1 x2 x3 x4 x5 x6) = [x0, x1, x2, x3, x4, x5, x6, x7] := by
        rw [← hlen, List.take_length] at he
        rw [he, hlen]; rfl
      simp (maxSteps := 1000000) (disch := first | assumption | omega | rfl | decide | simp only [fitsR, Bool.and_self]) [↓rules, rules, ↓rulesDp, rulesDq, lit_u64, Int.ofNat_inj, q_int, q_bool, q_uint64, q_A4_uint64, q_S_uint64, q_reeveref11_Thing, hn0, hn1]
      refine done_q hdom (by repeat first | exact k1.trans kp | refine Kept.new ?_ _ | refine Kept.drop ?_ (by omega) | refine Kept.put ?_ (by omega) (by omega) _ | refine Kept.skip ?_) rfl ?_
      rw [getT, if_pos heq]
      simp (maxSteps := 1000000) (disch := first | assumption | omega | rfl | decide | simp only [fitsR, Bool.and_self]) [↓rules, rules, ↓rulesDp, rulesDq, lit_u64, Int.ofNat_inj, aResults, aRes, q_int, q_bool, q_uint64, q_A4_uint64, q_S_uint64, q_reeveref11_Thing, decT]
  · exact ⟨0, by simp, by simp, rfl, rfl, by simp, rfl⟩
end Go.Proofs.Ytafpgojoemcgnaa.F11

namespace Go.Proofs.Ytafpgojoemcgnaa.F11
open Go Go.Proofs Go.Proofs.YtafpgojoemcgnaaAbs
set_option maxHeartbeats 8000000
set_option maxRecDepth 100000
theorem leT_nat {a b : Nat} (h : a ≤ b) : (a ≤ b) = True := eq_true h
/-! ### What is read of what is written -/
theorem fld_ofInt {v : Int} (h1 : 0 ≤ v) (h2 : v < 18446744073709551616) (p q : Nat) : fld (BitVec.ofInt 64 v) p q = v / 2 ^ p % 2 ^ q := by
  unfold fld
  rw [ofInt_nat h1 h2]
  obtain ⟨k, rfl⟩ : ∃ k : Nat, v = k := ⟨v.toNat, by omega⟩
  simp
theorem decT_words {t : Th} (h : goodT t = true) : decT (BitVec.ofInt 64 (numA t)) (BitVec.ofInt 64 (numB t)) t.word t.d0 t.d1 t.d2 t.d3 = t := by
  obtain ⟨⟨a1, a2⟩, ⟨b1, b2⟩, ⟨c1, c2⟩, ⟨s1, s2⟩, ⟨u1, u2⟩, ⟨f1, f2⟩, ⟨g1, g2⟩⟩ := goodT_range h
  have hu : 0 ≤ fullI t ∧ fullI t ≤ 1 := by unfold fullI; split <;> omega
  have hA : 0 ≤ numA t ∧ numA t < 18446744073709551616 := by unfold numA; omega
  have hB : 0 ≤ numB t ∧ numB t < 18446744073709551616 := by unfold numB; omega
  have e0 : fld (BitVec.ofInt 64 (numA t)) 0 8 = t.ty := by rw [fld_ofInt hA.1 hA.2]; unfold numA; simp only [Int.reducePow]; omega
  have e1 : fld (BitVec.ofInt 64 (numA t)) 8 8 = t.bits := by rw [fld_ofInt hA.1 hA.2]; unfold numA; simp only [Int.reducePow]; omega
  have e2 : fld (BitVec.ofInt 64 (numA t)) 16 8 = t.base := by rw [fld_ofInt hA.1 hA.2]; unfold numA; simp only [Int.reducePow]; omega
  have e3 : fld (BitVec.ofInt 64 (numA t)) 24 8 = fullI t := by rw [fld_ofInt hA.1 hA.2]; unfold numA; simp only [Int.reducePow]; omega
  have e4 : fld (BitVec.ofInt 64 (numA t)) 32 8 = t.frm := by rw [fld_ofInt hA.1 hA.2]; unfold numA; simp only [Int.reducePow]; omega
  have e5 : fld (BitVec.ofInt 64 (numB t)) 0 16 = t.size := by rw [fld_ofInt hB.1 hB.2]; unfold numB; simp only [Int.reducePow]; omega
  have e6 : fld (BitVec.ofInt 64 (numB t)) 16 16 = t.used := by rw [fld_ofInt hB.1 hB.2]; unfold numB; simp only [Int.reducePow]; omega
  have e7 : fld (BitVec.ofInt 64 (numB t)) 32 16 = t.badge := by rw [fld_ofInt hB.1 hB.2]; unfold numB; simp only [Int.reducePow]; omega
  have e8 : decide (fullI t = 1) = t.full := by unfold fullI; cases t.full <;> rfl
  unfold decT
  rw [e0, e1, e2, e3, e4, e5, e6, e7, e8]
theorem getT_put {t : Th} (h : goodT t = true) : getT (putT t) = (t, true) := by
  have e : putT t = wordsT t := if_pos h
  rw [e, wordsT, getT, decT_words h, if_pos (by rw [e]; rfl)]
theorem getT_back (l : List (BitVec 64)) : (getT l = (noT, false)) ∨ ((getT l).2 = true ∧ goodT (getT l).1 = true ∧ putT (getT l).1 = l) := by
  unfold getT
  split
  · rename_i a b c d e f g h
    split
    · rename_i hp
      refine .inr ⟨rfl, ?_, hp⟩
      apply Classical.byContradiction; intro hn
      rw [putT, if_neg hn] at hp; cases hp
    · exact .inl rfl
  · exact .inl rfl
theorem putT_inj {a b : Th} (ha : goodT a = true) (hb : goodT b = true) (h : putT a = putT b) : a = b := by
  have e1 := getT_put ha
  rw [h, getT_put hb] at e1
  exact (Prod.mk.inj e1).1.symm
theorem good_noT : goodT noT = true := by decide
/-! ### The laws -/
theorem ThingApart (a b : Th) (g : AMem) (n : Nat) (hd : ∀ i, g i ≠ none → i < n) (_ : True) (_ : True) : FnC Try.prog f_reevelaw11_ThingApart [.agg (cT a).toArray, .agg (cT b).toArray] g n (fun _ => False) (.bool true) g n := by
  refine fnC_of_rwp t_reevelaw11_ThingApart hm rfl fun hdom => ?_
  simp (maxSteps := 1000000) (disch := first | assumption | omega | rfl | decide | simp only [fitsR, Bool.and_self]) [↓rules, rules, ↓rulesDp, rulesDq, lit_u64, Int.ofNat_inj, rc_reevelaw11_ThingApart, q_int, q_bool, q_uint64, q_A4_uint64, q_thing_Thing, q_S_uint64, cT]
  refine rcall_quiet rfl (awake _ _) ?_
  simp (maxSteps := 1000000) (disch := first | assumption | omega | rfl | decide | simp only [fitsR, Bool.and_self]) [↓rules, rules, ↓rulesDp, rulesDq, lit_u64, Int.ofNat_inj, q_int, q_bool, q_uint64, q_A4_uint64, q_thing_Thing, q_S_uint64]
  refine rcall_quiet rfl (thing_Good a _ _) ?_
  cases ca : goodT a
  · simp (maxSteps := 1000000) (disch := first | assumption | omega | rfl | decide | simp only [fitsR, Bool.and_self]) [↓rules, rules, ↓rulesDp, rulesDq, lit_u64, Int.ofNat_inj, q_int, q_bool, q_uint64, q_A4_uint64, q_thing_Thing, q_S_uint64]
    exact done_q hdom (by repeat first | exact Kept.refl hdom | refine Kept.new ?_ _ | refine Kept.drop ?_ (by omega) | refine Kept.put ?_ (by omega) (by omega) _ | refine Kept.skip ?_) rfl rfl
  simp (maxSteps := 1000000) (disch := first | assumption | omega | rfl | decide | simp only [fitsR, Bool.and_self]) [↓rules, rules, ↓rulesDp, rulesDq, lit_u64, Int.ofNat_inj, q_int, q_bool, q_uint64, q_A4_uint64, q_thing_Thing, q_S_uint64]
  refine rcall_quiet rfl (thing_Good b _ _) ?_
  cases cb : goodT b
  · simp (maxSteps := 1000000) (disch := first | assumption | omega | rfl | decide | simp only [fitsR, Bool.and_self]) [↓rules, rules, ↓rulesDp, rulesDq, lit_u64, Int.ofNat_inj, q_int, q_bool, q_uint64, q_A4_uint64, q_thing_Thing, q_S_uint64]
    exact done_q hdom (by repeat first | exact Kept.refl hdom | refine Kept.new ?_ _ | refine Kept.drop ?_ (by omega) | refine Kept.put ?_ (by omega) (by omega) _ | refine Kept.skip ?_) rfl rfl
  simp (maxSteps := 1000000) (disch := first | assumption | omega | rfl | decide | simp only [fitsR, Bool.and_self]) [↓rules, rules, ↓rulesDp, rulesDq, lit_u64, Int.ofNat_inj, q_int, q_bool, q_uint64, q_A4_uint64, q_thing_Thing, q_S_uint64]
  have k0 : Kept g n (gset (gset g n (some (.row (cT a) true))) (n + 1) (some (.row (cT b) true))) (n + 1 + 1) := ((Kept.refl hdom).new _).new _
  refine dcall_spec k0.dom (thing_Put a _ _ k0.dom) (fun _ _ _ h => h.2) rfl (by simp (maxSteps := 1000000) (disch := first | assumption | omega | rfl | decide | simp only [fitsR, Bool.and_self]) [↓rules, rules, ↓rulesDp, rulesDq, lit_u64, Int.ofNat_inj]) fun va g1 n1 ⟨r1, k1⟩ => ?_
  have l1 := k1.le
  have ha1 := k1.same n (by omega)
  have hb1 := k1.same (n + 1) (by omega)
  rw [gset, if_neg (by omega), gset, if_pos rfl] at ha1
  rw [gset, if_pos rfl] at hb1
  try simp only [cT] at ha1 hb1
  simp (maxSteps := 1000000) (disch := first | assumption | omega | rfl | decide | simp only [fitsR, Bool.and_self]) [↓rules, rules, ↓rulesDp, rulesDq, lit_u64, Int.ofNat_inj, q_int, q_bool, q_uint64, q_A4_uint64, q_thing_Thing, q_S_uint64, ha1, hb1]
  refine dcall_spec k1.dom (thing_Put b _ _ k1.dom) (fun _ _ _ h => h.2) rfl (by simp (maxSteps := 1000000) (disch := first | assumption | omega | rfl | decide | simp only [fitsR, Bool.and_self]) [↓rules, rules, ↓rulesDp, rulesDq, lit_u64, Int.ofNat_inj]) fun vb g2 n2 ⟨r2, k2⟩ => ?_
  have l2 := k2.le
  have ha2 := k2.same n (by omega)
  have hb2 := k2.same (n + 1) (by omega)
  rw [ha1] at ha2
  rw [hb1] at hb2
  simp (maxSteps := 1000000) (disch := first | assumption | omega | rfl | decide | simp only [fitsR, Bool.and_self]) [↓rules, rules, ↓rulesDp, rulesDq, lit_u64, Int.ofNat_inj, q_int, q_bool, q_uint64, q_A4_uint64, q_thing_Thing, q_S_uint64]
  refine dcall_quiet k2.dom rfl (words va vb _ _ _ _ (by have := putT_len a; omega) (by have := putT_len b; omega) (r1.ext (k2.ext k1.dom)) r2) (by simp (maxSteps := 1000000) (disch := first | assumption | omega | rfl | decide | simp only [fitsR, Bool.and_self]) [↓rules, rules, ↓rulesDp, rulesDq, lit_u64, Int.ofNat_inj]) ?_
  have hx : decide (putT a = putT b) = sameT a b := by
    rw [Bool.eq_iff_iff, decide_eq_true_eq, sameT_iff]
    exact ⟨putT_inj ca cb, fun h => by rw [h]⟩
  rw [hx]
  simp (maxSteps := 1000000) (disch := first | assumption | omega | rfl | decide | simp only [fitsR, Bool.and_self]) [↓rules, rules, ↓rulesDp, rulesDq, lit_u64, Int.ofNat_inj, q_int, q_bool, q_uint64, q_A4_uint64, q_thing_Thing, q_S_uint64, ha2, hb2, beq_vT, bin_eql_bool tu_bool]
  refine done_q hdom ((k0.trans k1).trans k2) rfl ?_
  rfl
theorem ThingBack (t : Th) (v : Value) (l : List (BitVec 64)) (g : AMem) (n : Nat) (hd : ∀ i, g i ≠ none → i < n) (_ : True) (_ : ∀ x ∈ l, True) (hv : rdW g v l) : FnC Try.prog f_reevelaw11_ThingBack [.agg (cT t).toArray, v] g n (fun _ => False) (.bool true) g n := by
  refine fnC_of_rwp t_reevelaw11_ThingBack hm rfl fun hdom => ?_
  obtain ⟨a, e', hvf⟩ := hv.form
  simp (maxSteps := 1000000) (disch := first | assumption | omega | rfl | decide | simp only [fitsR, Bool.and_self]) [↓rules, rules, ↓rulesDp, rulesDq, lit_u64, Int.ofNat_inj, rc_reevelaw11_ThingBack, q_int, q_bool, q_uint64, q_A4_uint64, q_thing_Thing, q_S_uint64, cT]
  refine rcall_quiet rfl (awake _ _) ?_
  by_cases c1 : (20 : Int) < l.length
  · simp (maxSteps := 1000000) (disch := first | assumption | omega | rfl | decide | simp only [fitsR, Bool.and_self]) [↓rules, rules, ↓rulesDp, rulesDq, lit_u64, Int.ofNat_inj, q_int, q_bool, q_uint64, q_A4_uint64, q_thing_Thing, q_S_uint64, hvf, c1]
    exact done_q hdom (by repeat first | exact Kept.refl hdom | refine Kept.new ?_ _ | refine Kept.drop ?_ (by omega) | refine Kept.put ?_ (by omega) (by omega) _ | refine Kept.skip ?_) rfl rfl
  simp (maxSteps := 1000000) (disch := first | assumption | omega | rfl | decide | simp only [fitsR, Bool.and_self]) [↓rules, rules, ↓rulesDp, rulesDq, lit_u64, Int.ofNat_inj, q_int, q_bool, q_uint64, q_A4_uint64, q_thing_Thing, q_S_uint64, hvf, c1]
  rw [← hvf]
  have k0 : Kept g n (gset g n (some (.row (cT t) true))) (n + 1) := (Kept.refl hdom).new _
  refine rcall_spec (thing_Put t _ _ k0.dom) rfl (fun _ h => h.elim) rfl fun va g1 n1 ⟨r1, k1⟩ => ?_
  have l1 := k1.le
  have ht1 := k1.same n (by omega)
  rw [gset, if_pos rfl] at ht1
  try simp only [cT] at ht1
  have kk := k0.trans k1
  have hvl : (putT t).length < 4611686018427387904 := by have := putT_len t; omega
  obtain ⟨aw, ew, hvw⟩ := r1.form
  simp (maxSteps := 1000000) (disch := first | assumption | omega | rfl | decide | simp only [fitsR, Bool.and_self]) [↓rules, rules, ↓rulesDp, rulesDq, lit_u64, Int.ofNat_inj, q_int, q_bool, q_uint64, q_A4_uint64, q_thing_Thing, q_S_uint64, ht1]
  refine rcall_quiet rfl (thing_Good t _ _) ?_
  cases c : goodT t
  · simp (maxSteps := 1000000) (disch := first | assumption | omega | rfl | decide | simp only [fitsR, Bool.and_self]) [↓rules, rules, ↓rulesDp, rulesDq, lit_u64, Int.ofNat_inj, q_int, q_bool, q_uint64, q_A4_uint64, q_thing_Thing, q_S_uint64]
    refine rcall_quiet rfl (thing_Get v l _ _ (by omega) (hv.ext (kk.ext hdom))) ?_
    rcases getT_back l with q | ⟨q1, q2, q3⟩
    · rw [q]
      simp (maxSteps := 1000000) (disch := first | assumption | omega | rfl | decide | simp only [fitsR, Bool.and_self]) [↓rules, rules, ↓rulesDp, rulesDq, lit_u64, Int.ofNat_inj, leT_nat, q_int, q_bool, q_uint64, q_A4_uint64, q_thing_Thing, q_S_uint64, noT, beq_thing_Thing]
      exact done_q hdom (by repeat first | exact kk | refine Kept.new ?_ _ | refine Kept.drop ?_ (by omega) | refine Kept.put ?_ (by omega) (by omega) _ | refine Kept.skip ?_) rfl rfl
    · simp (maxSteps := 1000000) (disch := first | assumption | omega | rfl | decide | simp only [fitsR, Bool.and_self]) [↓rules, rules, ↓rulesDp, rulesDq, lit_u64, Int.ofNat_inj, leT_nat, q_int, q_bool, q_uint64, q_A4_uint64, q_thing_Thing, q_S_uint64, q1]
      refine rcall_quiet rfl (thing_Good (getT l).1 _ _) ?_
      rw [q2]
      simp (maxSteps := 1000000) (disch := first | assumption | omega | rfl | decide | simp only [fitsR, Bool.and_self]) [↓rules, rules, ↓rulesDp, rulesDq, lit_u64, Int.ofNat_inj, q_int, q_bool, q_uint64, q_A4_uint64, q_thing_Thing, q_S_uint64]
      refine rcall_spec (thing_Put (getT l).1 _ _ (Kept.dom (kk.new _))) rfl (fun _ h => h.elim) rfl fun vz g3 n3 ⟨r3, k3⟩ => ?_
      simp (maxSteps := 1000000) (disch := first | assumption | omega | rfl | decide | simp only [fitsR, Bool.and_self]) [↓rules, rules, ↓rulesDp, rulesDq, lit_u64, Int.ofNat_inj, q_int, q_bool, q_uint64, q_A4_uint64, q_thing_Thing, q_S_uint64]
      refine rcall_quiet rfl (words vz v _ _ _ _ (by have := putT_len (getT l).1; omega) (by omega) r3 ((hv.ext ((kk.new _).ext hdom)).ext (k3.ext (Kept.dom (kk.new _))))) ?_
      rw [q3]
      simp (maxSteps := 1000000) (disch := first | assumption | omega | rfl | decide | simp only [fitsR, Bool.and_self]) [↓rules, rules, ↓rulesDp, rulesDq, lit_u64, Int.ofNat_inj]
      exact done_q hdom ((kk.new _).trans k3) rfl rfl
  · have hl8 : (putT t).length = 8 := by rw [putT, if_pos c]; rfl
    simp (maxSteps := 1000000) (disch := first | assumption | omega | rfl | decide | simp only [fitsR, Bool.and_self]) [↓rules, rules, ↓rulesDp, rulesDq, lit_u64, Int.ofNat_inj, q_int, q_bool, q_uint64, q_A4_uint64, q_thing_Thing, q_S_uint64]
    refine rcall_quiet rfl (thing_Get va (putT t) _ _ hvl r1) ?_
    rw [getT_put c]
    rw [hl8] at hvw
    have hst : sameT t t = true := sameT_iff.2 rfl
    have hn1 : n ≠ n1 := by omega
    simp (maxSteps := 1000000) (disch := first | assumption | omega | rfl | decide | simp only [fitsR, Bool.and_self]) [↓rules, rules, ↓rulesDp, rulesDq, lit_u64, Int.ofNat_inj, leT_nat, q_int, q_bool, q_uint64, q_A4_uint64, q_thing_Thing, q_S_uint64, hvw, bne_vT, hst, ht1]
    have kq : Kept g n (gset g1 n1 (some (.row (cT t) true))) (n1 + 1) := kk.new _
    refine rcall_quiet rfl (thing_Get v l _ _ (by omega) (hv.ext (kq.ext hdom))) ?_
    rcases getT_back l with q | ⟨q1, q2, q3⟩
    · rw [q]
      simp (maxSteps := 1000000) (disch := first | assumption | omega | rfl | decide | simp only [fitsR, Bool.and_self]) [↓rules, rules, ↓rulesDp, rulesDq, lit_u64, Int.ofNat_inj, leT_nat, q_int, q_bool, q_uint64, q_A4_uint64, q_thing_Thing, q_S_uint64, noT, beq_thing_Thing]
      exact done_q hdom (by repeat first | exact kq | refine Kept.new ?_ _ | refine Kept.drop ?_ (by omega) | refine Kept.put ?_ (by omega) (by omega) _ | refine Kept.skip ?_) rfl rfl
    · simp (maxSteps := 1000000) (disch := first | assumption | omega | rfl | decide | simp only [fitsR, Bool.and_self]) [↓rules, rules, ↓rulesDp, rulesDq, lit_u64, Int.ofNat_inj, leT_nat, q_int, q_bool, q_uint64, q_A4_uint64, q_thing_Thing, q_S_uint64, q1]
      refine rcall_quiet rfl (thing_Good (getT l).1 _ _) ?_
      rw [q2]
      simp (maxSteps := 1000000) (disch := first | assumption | omega | rfl | decide | simp only [fitsR, Bool.and_self]) [↓rules, rules, ↓rulesDp, rulesDq, lit_u64, Int.ofNat_inj, q_int, q_bool, q_uint64, q_A4_uint64, q_thing_Thing, q_S_uint64]
      refine rcall_spec (thing_Put (getT l).1 _ _ (Kept.dom (kq.new _))) rfl (fun _ h => h.elim) rfl fun vz g3 n3 ⟨r3, k3⟩ => ?_
      simp (maxSteps := 1000000) (disch := first | assumption | omega | rfl | decide | simp only [fitsR, Bool.and_self]) [↓rules, rules, ↓rulesDp, rulesDq, lit_u64, Int.ofNat_inj, q_int, q_bool, q_uint64, q_A4_uint64, q_thing_Thing, q_S_uint64]
      refine rcall_quiet rfl (words vz v _ _ _ _ (by have := putT_len (getT l).1; omega) (by omega) r3 ((hv.ext ((kq.new _).ext hdom)).ext (k3.ext (Kept.dom (kq.new _))))) ?_
      rw [q3]
      simp (maxSteps := 1000000) (disch := first | assumption | omega | rfl | decide | simp only [fitsR, Bool.and_self]) [↓rules, rules, ↓rulesDp, rulesDq, lit_u64, Int.ofNat_inj]
      exact done_q hdom ((kq.new _).trans k3) rfl rfl
end Go.Proofs.Ytafpgojoemcgnaa.F11

namespace Go.Proofs.Ytafpgojoemcgnaa.F11
open Go Go.Proofs Go.Proofs.YtafpgojoemcgnaaAbs
set_option maxHeartbeats 8000000
set_option maxRecDepth 100000
theorem thingOf' (t : Th) (g : AMem) (n : Nat) : FnC Try.prog f_reevelaw11_thingOf [.agg #[.int .i64 t.ty, .int .i64 t.bits, .int .i64 t.base, .int .i64 t.size, .int .i64 t.used, .int .i64 t.frm, .int .i64 t.badge, .bool t.full, U t.word, U t.d0, U t.d1, U t.d2, U t.d3]] g n (fun _ => False) (vT t) g n := thingOf t g n
theorem sameT_self (t : Th) : sameT t t = true := sameT_iff.2 rfl
theorem ThingSays (t : Th) (v : Value) (l : List (BitVec 64)) (k s b : Int) (g : AMem) (n : Nat) (hd : ∀ i, g i ≠ none → i < n) (_ : True) (_ : ∀ x ∈ l, True) (hv : rdW g v l) (_ : -9223372036854775808 ≤ k) (_ : k ≤ 9223372036854775807) (_ : -9223372036854775808 ≤ s) (_ : s ≤ 9223372036854775807) (_ : -9223372036854775808 ≤ b) (_ : b ≤ 9223372036854775807) :
    FnC Try.prog f_reevelaw11_ThingSays [.agg (cT t).toArray, v, .int .i64 k, .int .i64 s, .int .i64 b] g n (fun _ => False) (.bool true) g n := by
  refine fnC_of_rwp t_reevelaw11_ThingSays hm rfl fun hdom => ?_
  obtain ⟨a, e', hvf⟩ := hv.form
  simp (maxSteps := 1000000) (disch := first | assumption | omega | rfl | decide | simp only [fitsR, Bool.and_self]) [↓rules, rules, ↓rulesDp, rulesDq, lit_u64, Int.ofNat_inj, leT_nat, rc_reevelaw11_ThingSays, q_int, q_bool, q_uint64, q_A4_uint64, q_thing_Thing, q_S_uint64, q_reeveref11_Thing, cT]
  refine rcall_quiet rfl (awake _ _) ?_
  by_cases c1 : (20 : Int) < l.length
  · simp (maxSteps := 1000000) (disch := first | assumption | omega | rfl | decide | simp only [fitsR, Bool.and_self]) [↓rules, rules, ↓rulesDp, rulesDq, lit_u64, Int.ofNat_inj, leT_nat, q_int, q_bool, q_uint64, q_A4_uint64, q_thing_Thing, q_S_uint64, q_reeveref11_Thing, hvf, c1]
    exact done_q hdom (by repeat first | exact Kept.refl hdom | refine Kept.new ?_ _ | refine Kept.drop ?_ (by omega) | refine Kept.put ?_ (by omega) (by omega) _ | refine Kept.skip ?_) rfl rfl
  simp (maxSteps := 1000000) (disch := first | assumption | omega | rfl | decide | simp only [fitsR, Bool.and_self]) [↓rules, rules, ↓rulesDp, rulesDq, lit_u64, Int.ofNat_inj, leT_nat, q_int, q_bool, q_uint64, q_A4_uint64, q_thing_Thing, q_S_uint64, q_reeveref11_Thing, hvf, c1]
  rw [← hvf]
  have k0 : Kept g n (gset g n (some (.row (cT t) true))) (n + 1) := (Kept.refl hdom).new _
  refine rcall_quiet rfl (thing_Get v l _ _ (by omega) (hv.ext (k0.ext hdom))) ?_
  simp (maxSteps := 1000000) (disch := first | assumption | omega | rfl | decide | simp only [fitsR, Bool.and_self]) [↓rules, rules, ↓rulesDp, rulesDq, lit_u64, Int.ofNat_inj, leT_nat, q_int, q_bool, q_uint64, q_A4_uint64, q_thing_Thing, q_S_uint64, q_reeveref11_Thing]
  have k1 : Kept g n (gset (gset g n (some (.row (cT t) true))) (n + 1) (some (.row (cT (getT l).1) true))) (n + 1 + 1) := k0.new _
  refine rcall_quiet rfl (ref_GetThing v l _ _ (by omega) (hv.ext (k1.ext hdom))) ?_
  simp (maxSteps := 1000000) (disch := first | assumption | omega | rfl | decide | simp only [fitsR, Bool.and_self]) [↓rules, rules, ↓rulesDp, rulesDq, lit_u64, Int.ofNat_inj, leT_nat, q_int, q_bool, q_uint64, q_A4_uint64, q_thing_Thing, q_S_uint64, q_reeveref11_Thing]
  refine rcall_quiet rfl (thing_Cost _ _ _ _) ?_
  simp (maxSteps := 1000000) (disch := first | assumption | omega | rfl | decide | simp only [fitsR, Bool.and_self]) [↓rules, rules, ↓rulesDp, rulesDq, lit_u64, Int.ofNat_inj, leT_nat, q_int, q_bool, q_uint64, q_A4_uint64, q_thing_Thing, q_S_uint64, q_reeveref11_Thing]
  refine rcall_quiet rfl (ref_Cost _ _ _ _) ?_
  simp (maxSteps := 1000000) (disch := first | assumption | omega | rfl | decide | simp only [fitsR, Bool.and_self]) [↓rules, rules, ↓rulesDp, rulesDq, lit_u64, Int.ofNat_inj, leT_nat, q_int, q_bool, q_uint64, q_A4_uint64, q_thing_Thing, q_S_uint64, q_reeveref11_Thing]
  refine rcall_quiet rfl (thing_New _ _ _ _ _) ?_
  simp (maxSteps := 1000000) (disch := first | assumption | omega | rfl | decide | simp only [fitsR, Bool.and_self]) [↓rules, rules, ↓rulesDp, rulesDq, lit_u64, Int.ofNat_inj, leT_nat, q_int, q_bool, q_uint64, q_A4_uint64, q_thing_Thing, q_S_uint64, q_reeveref11_Thing]
  refine rcall_quiet rfl (ref_NewThing _ _ _ _ _) ?_
  simp (maxSteps := 1000000) (disch := first | assumption | omega | rfl | decide | simp only [fitsR, Bool.and_self]) [↓rules, rules, ↓rulesDp, rulesDq, lit_u64, Int.ofNat_inj, leT_nat, q_int, q_bool, q_uint64, q_A4_uint64, q_thing_Thing, q_S_uint64, q_reeveref11_Thing]
  generalize hG : gset _ _ _ = G
  have kb : Kept g n G (n + 1 + 1 + 1 + 1 + 1) := by rw [← hG]; exact (by repeat first | exact Kept.refl hdom | refine Kept.new ?_ _ | refine Kept.drop ?_ (by omega) | refine Kept.put ?_ (by omega) (by omega) _ | refine Kept.skip ?_)
  have p0 : G n = some (.row (cT t) true) := by rw [← hG]; simp (maxSteps := 1000000) (disch := first | assumption | omega | rfl | decide | simp only [fitsR, Bool.and_self]) [↓rules, rules, ↓rulesDp, rulesDq, lit_u64, Int.ofNat_inj, cT]
  have p1 : G (n + 1) = some (.row (cT (getT l).1) true) := by rw [← hG]; simp (maxSteps := 1000000) (disch := first | assumption | omega | rfl | decide | simp only [fitsR, Bool.and_self]) [↓rules, rules, ↓rulesDp, rulesDq, lit_u64, Int.ofNat_inj, cT]
  have p2 : G (n + 1 + 1) = some (.row (cT (getT l).1) true) := by rw [← hG]; simp (maxSteps := 1000000) (disch := first | assumption | omega | rfl | decide | simp only [fitsR, Bool.and_self]) [↓rules, rules, ↓rulesDp, rulesDq, lit_u64, Int.ofNat_inj, cT]
  have p3 : G (n + 1 + 1 + 1) = some (.row (cT (newT k s b).1) true) := by rw [← hG]; simp (maxSteps := 1000000) (disch := first | assumption | omega | rfl | decide | simp only [fitsR, Bool.and_self]) [↓rules, rules, ↓rulesDp, rulesDq, lit_u64, Int.ofNat_inj, cT]
  have p4 : G (n + 1 + 1 + 1 + 1) = some (.row (cT (newT k s b).1) true) := by rw [← hG]; simp (maxSteps := 1000000) (disch := first | assumption | omega | rfl | decide | simp only [fitsR, Bool.and_self]) [↓rules, rules, ↓rulesDp, rulesDq, lit_u64, Int.ofNat_inj, cT]
  clear hG
  refine dcall_quiet kb.dom rfl (thing_Good t _ _) (by simp (maxSteps := 1000000) (disch := first | assumption | omega | rfl | decide | simp only [fitsR, Bool.and_self]) [↓rules, rules, ↓rulesDp, rulesDq, lit_u64, Int.ofNat_inj]) ?_
  have p0' := p0
  simp only [cT] at p0'
  simp (maxSteps := 1000000) (disch := first | assumption | omega | rfl | decide | simp only [fitsR, Bool.and_self]) [↓rules, rules, ↓rulesDp, rulesDq, lit_u64, Int.ofNat_inj, q_int, q_bool, q_uint64, q_A4_uint64, q_thing_Thing, q_S_uint64, q_reeveref11_Thing, p0']
  refine dcall_quiet kb.dom rfl (thingOf' t _ _) (by simp (maxSteps := 1000000) (disch := first | assumption | omega | rfl | decide | simp only [fitsR, Bool.and_self]) [↓rules, rules, ↓rulesDp, rulesDq, lit_u64, Int.ofNat_inj]) ?_
  simp (maxSteps := 1000000) (disch := first | assumption | omega | rfl | decide | simp only [fitsR, Bool.and_self]) [↓rules, rules, ↓rulesDp, rulesDq, lit_u64, Int.ofNat_inj, q_int, q_bool, q_uint64, q_A4_uint64, q_thing_Thing, q_S_uint64, q_reeveref11_Thing, p0']
  refine dcall_quiet kb.dom rfl (ref_GoodThing t _ _) (by simp (maxSteps := 1000000) (disch := first | assumption | omega | rfl | decide | simp only [fitsR, Bool.and_self]) [↓rules, rules, ↓rulesDp, rulesDq, lit_u64, Int.ofNat_inj]) ?_
  simp (maxSteps := 1000000) (disch := first | assumption | omega | rfl | decide | simp only [fitsR, Bool.and_self]) [↓rules, rules, ↓rulesDp, rulesDq, lit_u64, Int.ofNat_inj, q_int, q_bool, q_uint64, q_A4_uint64, q_thing_Thing, q_S_uint64, q_reeveref11_Thing, p0', bin_eql_bool tu_bool]
  refine dcall_spec kb.dom (thing_Put t _ _ kb.dom) (fun _ _ _ h => h.2) rfl (by simp (maxSteps := 1000000) (disch := first | assumption | omega | rfl | decide | simp only [fitsR, Bool.and_self]) [↓rules, rules, ↓rulesDp, rulesDq, lit_u64, Int.ofNat_inj]) fun vp g1 n1 ⟨r1, k1⟩ => ?_
  have l1 := k1.le
  have q0 := (k1.same n (by omega)).trans p0
  try simp only [cT] at q0
  simp (maxSteps := 1000000) (disch := first | assumption | omega | rfl | decide | simp only [fitsR, Bool.and_self]) [↓rules, rules, ↓rulesDp, rulesDq, lit_u64, Int.ofNat_inj, q_int, q_bool, q_uint64, q_A4_uint64, q_thing_Thing, q_S_uint64, q_reeveref11_Thing, q0]
  refine dcall_quiet k1.dom rfl (thingOf' t _ _) (by simp (maxSteps := 1000000) (disch := first | assumption | omega | rfl | decide | simp only [fitsR, Bool.and_self]) [↓rules, rules, ↓rulesDp, rulesDq, lit_u64, Int.ofNat_inj]) ?_
  simp (maxSteps := 1000000) (disch := first | assumption | omega | rfl | decide | simp only [fitsR, Bool.and_self]) [↓rules, rules, ↓rulesDp, rulesDq, lit_u64, Int.ofNat_inj, q_int, q_bool, q_uint64, q_A4_uint64, q_thing_Thing, q_S_uint64, q_reeveref11_Thing, q0]
  refine dcall_spec k1.dom (ref_PutThing t _ _ k1.dom) (fun _ _ _ h => h.2) rfl (by simp (maxSteps := 1000000) (disch := first | assumption | omega | rfl | decide | simp only [fitsR, Bool.and_self]) [↓rules, rules, ↓rulesDp, rulesDq, lit_u64, Int.ofNat_inj]) fun vq g2 n2 ⟨r2, k2⟩ => ?_
  have l2 := k2.le
  have kk := k1.trans k2
  simp (maxSteps := 1000000) (disch := first | assumption | omega | rfl | decide | simp only [fitsR, Bool.and_self]) [↓rules, rules, ↓rulesDp, rulesDq, lit_u64, Int.ofNat_inj, q_int, q_bool, q_uint64, q_A4_uint64, q_thing_Thing, q_S_uint64, q_reeveref11_Thing]
  refine dcall_quiet k2.dom rfl (words vp vq _ _ _ _ (by have := putT_len t; omega) (by have := putT_len t; omega) (r1.ext (k2.ext k1.dom)) r2) (by simp (maxSteps := 1000000) (disch := first | assumption | omega | rfl | decide | simp only [fitsR, Bool.and_self]) [↓rules, rules, ↓rulesDp, rulesDq, lit_u64, Int.ofNat_inj]) ?_
  have w1 := (kk.same (n + 1) (by omega)).trans p1
  have w2 := (kk.same (n + 1 + 1) (by omega)).trans p2
  have w3 := (kk.same (n + 1 + 1 + 1) (by omega)).trans p3
  have w4 := (kk.same (n + 1 + 1 + 1 + 1) (by omega)).trans p4
  try simp only [cT] at w1 w2 w3 w4
  simp (maxSteps := 1000000) (disch := first | assumption | omega | rfl | decide | simp only [fitsR, Bool.and_self]) [↓rules, rules, ↓rulesDp, rulesDq, lit_u64, Int.ofNat_inj, q_int, q_bool, q_uint64, q_A4_uint64, q_thing_Thing, q_S_uint64, q_reeveref11_Thing, w1, bin_eql_bool tu_bool]
  refine dcall_quiet k2.dom rfl (thingOf' (getT l).1 _ _) (by simp (maxSteps := 1000000) (disch := first | assumption | omega | rfl | decide | simp only [fitsR, Bool.and_self]) [↓rules, rules, ↓rulesDp, rulesDq, lit_u64, Int.ofNat_inj]) ?_
  simp (maxSteps := 1000000) (disch := first | assumption | omega | rfl | decide | simp only [fitsR, Bool.and_self]) [↓rules, rules, ↓rulesDp, rulesDq, lit_u64, Int.ofNat_inj, q_int, q_bool, q_uint64, q_A4_uint64, q_thing_Thing, q_S_uint64, q_reeveref11_Thing, w2, beq_vR, sameT_self, bin_eql_bool tu_bool, w3]
  refine dcall_quiet k2.dom rfl (thingOf' (newT k s b).1 _ _) (by simp (maxSteps := 1000000) (disch := first | assumption | omega | rfl | decide | simp only [fitsR, Bool.and_self]) [↓rules, rules, ↓rulesDp, rulesDq, lit_u64, Int.ofNat_inj]) ?_
  simp (maxSteps := 1000000) (disch := first | assumption | omega | rfl | decide | simp only [fitsR, Bool.and_self]) [↓rules, rules, ↓rulesDp, rulesDq, lit_u64, Int.ofNat_inj, q_int, q_bool, q_uint64, q_A4_uint64, q_thing_Thing, q_S_uint64, q_reeveref11_Thing, w4, beq_vR, sameT_self, bin_eql_bool tu_bool]
  exact done_q hdom (kb.trans kk) rfl rfl
theorem decTh {H : Type} {enc : TypeId × Value → H} {W : World} : ∀ c, Cells enc Try.prog W [.flat (.int .i64), .flat (.int .i64), .flat (.int .i64), .flat (.int .i64), .flat (.int .i64), .flat (.int .i64), .flat (.int .i64), .flat .bool, .flat (.int .u64), .flat (.int .u64), .flat (.int .u64), .flat (.int .u64), .flat (.int .u64)] c → ∃ x : Th, cT x = c ∧ True := fun c h => by
  have hl := h.len
  simp only [List.length_cons, List.length_nil] at hl
  match c, hl, h with
  | [c0, c1, c2, c3, c4, c5, c6, c7, c8, c9, c10, c11, c12], _, h =>
    obtain ⟨x0, h0, _⟩ := LK.i64 (h.at_ 0 (by simp) (by simp))
    obtain ⟨x1, h1, _⟩ := LK.i64 (h.at_ 1 (by simp) (by simp))
    obtain ⟨x2, h2, _⟩ := LK.i64 (h.at_ 2 (by simp) (by simp))
    obtain ⟨x3, h3, _⟩ := LK.i64 (h.at_ 3 (by simp) (by simp))
    obtain ⟨x4, h4, _⟩ := LK.i64 (h.at_ 4 (by simp) (by simp))
    obtain ⟨x5, h5, _⟩ := LK.i64 (h.at_ 5 (by simp) (by simp))
    obtain ⟨x6, h6, _⟩ := LK.i64 (h.at_ 6 (by simp) (by simp))
    obtain ⟨x7, h7⟩ := (show LK.bool.is _ from h.at_ 7 (by simp) (by simp))
    obtain ⟨x8, h8⟩ := LK.u64 (h.at_ 8 (by simp) (by simp))
    obtain ⟨x9, h9⟩ := LK.u64 (h.at_ 9 (by simp) (by simp))
    obtain ⟨x10, h10⟩ := LK.u64 (h.at_ 10 (by simp) (by simp))
    obtain ⟨x11, h11⟩ := LK.u64 (h.at_ 11 (by simp) (by simp))
    obtain ⟨x12, h12⟩ := LK.u64 (h.at_ 12 (by simp) (by simp))
    refine ⟨⟨x0, x1, x2, x3, x4, x5, x6, x7, x8, x9, x10, x11, x12⟩, ?_, trivial⟩
    simp only [List.getElem_cons_zero, List.getElem_cons_succ] at h0 h1 h2 h3 h4 h5 h6 h7 h8 h9 h10 h11 h12
    simp only [cT, h0, h1, h2, h3, h4, h5, h6, h7, h8, h9, h10, h11, h12]
theorem decW {H : Type} {enc : TypeId × Value → H} {W : World} : ∀ c, Cells enc Try.prog W [.flat (.int .u64)] c → ∃ x : BitVec 64, [U x] = c ∧ True := fun c h => by
  obtain ⟨a, rfl, ha⟩ := h.flats1
  obtain ⟨x, rfl⟩ := LK.u64 ha
  exact ⟨x, rfl, trivial⟩
end Go.Proofs.Ytafpgojoemcgnaa.F11
