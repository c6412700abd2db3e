/- Contracts of functions: what each one returns, and what it leaves. No statement is proved here. -/
import Derived.Test.YtkcahnefekkfaaaP12Ha
set_option linter.unusedVariables false
set_option linter.unusedSimpArgs false
set_option linter.unusedSectionVars false
namespace Go.Proofs.Ytkcahnefekkfaaa.F12H
open Go Go.Proofs Go.Proofs.YtkcahnefekkfaaaAbs
variable [Base]
set_option maxHeartbeats 8000000
set_option maxRecDepth 100000
theorem hvy_lens {ss : List Sl} {ts : List Tg} (h : hvy ss ts = false) : ss.length ≤ 100 ∧ ts.length ≤ 50 := by
  simp only [hvy, Bool.or_eq_false_iff, decide_eq_false_iff_not] at h
  omega
theorem mS_le (ss : List Sl) : ∀ T, mS ss T ≤ T * ss.length
  | 0 => Nat.zero_le _
  | T + 1 => by
    have h1 := mS_le ss T
    have h2 := holdU_len ss T ss.length
    rw [mS, Nat.succ_mul]
    exact Nat.add_le_add h1 h2
theorem stateHolders (a b c : Int) (VS : Value) (ss : List Sl) (VT : Value) (ts : List Tg) (g : AMem) (n : Nat) (hdom : ∀ i, g i ≠ none → i < n)
    (hs : rdS g VS ss) (ht : rdG g VT ts) :
    FnC Try.prog f_reevelaw12_StateHolders [sv a b c VS VT] g n (fun _ => False) (.bool true) g n := by
  refine fnC_of_rwp t_reevelaw12_StateHolders hm rfl fun hdom => ?_
  have k1 : Kept g n (gset g n (some (rowS a b c VS VT))) (n + 1) := (by repeat first | exact Kept.refl hdom | refine Kept.new ?_ _ | refine Kept.drop ?_ (by omega) | refine Kept.put ?_ (by omega) (by omega) _ | refine Kept.skip ?_)
  have hs1 := hs.ext (k1.ext hdom)
  have ht1 := ht.ext (k1.ext hdom)
  have r0 : gset g n (some (rowS a b c VS VT)) n = some (rowS a b c VS VT) := by rw [gset, if_pos rfl]
  simp (maxSteps := 1000000) (disch := first | assumption | omega | rfl | decide | simp only [fitsR, Bool.and_self]) [↓rules, rules, ↓rulesDp, rulesDq, lit_u64, Int.ofNat_inj, stops, rc_reevelaw12_StateHolders, q_int, q_bool, q_geo_Geo, q_S_state_Slot, q_S_thing_Thing, q_state_State, q_cap_Cap, q_state_Slot, q_S_int, q_uint64, q_A4_uint64, q_thing_Thing]
  generalize gset g n (some (rowS a b c VS VT)) = G at *
  refine rcall_quiet rfl (awake12 _ _) ?_
  simp (maxSteps := 1000000) (disch := first | assumption | omega | rfl | decide | simp only [fitsR, Bool.and_self]) [↓rules, rules, ↓rulesDp, rulesDq, lit_u64, Int.ofNat_inj, stops, q_int, q_bool, q_geo_Geo, q_S_state_Slot, q_S_thing_Thing, q_state_State, q_cap_Cap, q_state_Slot, q_S_int, q_uint64, q_A4_uint64, q_thing_Thing, r0]
  refine rcall_quiet rfl (law_heavy a b c VS VT ss ts _ _ hs1 ht1) ?_
  cases hv : hvy ss ts
  case true =>
    simp (maxSteps := 1000000) (disch := first | assumption | omega | rfl | decide | simp only [fitsR, Bool.and_self]) [↓rules, rules, ↓rulesDp, rulesDq, lit_u64, Int.ofNat_inj, stops, q_int, q_bool, q_geo_Geo, q_S_state_Slot, q_S_thing_Thing, q_state_State, q_cap_Cap, q_state_Slot, q_S_int, q_uint64, q_A4_uint64, q_thing_Thing]
    exact done_q hdom k1 rfl rfl
  obtain ⟨ls, lt⟩ := hvy_lens hv
  simp (maxSteps := 1000000) (disch := first | assumption | omega | rfl | decide | simp only [fitsR, Bool.and_self]) [↓rules, rules, ↓rulesDp, rulesDq, lit_u64, Int.ofNat_inj, stops, q_int, q_bool, q_geo_Geo, q_S_state_Slot, q_S_thing_Thing, q_state_State, q_cap_Cap, q_state_Slot, q_S_int, q_uint64, q_A4_uint64, q_thing_Thing, r0]
  refine rcall_quiet rfl (state_Good a b c VS VT ss ts _ _ (by omega) (by omega) hs1 ht1) ?_
  cases hgd : goodS a b c ss ts
  · simp (maxSteps := 1000000) (disch := first | assumption | omega | rfl | decide | simp only [fitsR, Bool.and_self]) [↓rules, rules, ↓rulesDp, rulesDq, lit_u64, Int.ofNat_inj, stops, q_int, q_bool, q_geo_Geo, q_S_state_Slot, q_S_thing_Thing, q_state_State, q_cap_Cap, q_state_Slot, q_S_int, q_uint64, q_A4_uint64, q_thing_Thing]
    exact done_q hdom k1 rfl rfl
  obtain ⟨_, _, _, hcap, _⟩ := goodS_parts hgd
  simp (maxSteps := 1000000) (disch := first | assumption | omega | rfl | decide | simp only [fitsR, Bool.and_self]) [↓rules, rules, ↓rulesDp, rulesDq, lit_u64, Int.ofNat_inj, stops, q_int, q_bool, q_geo_Geo, q_S_state_Slot, q_S_thing_Thing, q_state_State, q_cap_Cap, q_state_Slot, q_S_int, q_uint64, q_A4_uint64, q_thing_Thing]
  refine rwp_loop (fun j l g' n' => ∃ i, j = ss.length - i ∧ i ≤ ss.length ∧ g' = G ∧ n' = n + 1 ∧ l = [(1, .pointer (some ⟨n, 0, none⟩)), (3, .int .i64 (nU ss i)), (4, .int .i64 0), (5, .int .i64 i)]) ?_ (k := ss.length) ?_
  · rintro j l g' n' ⟨i, rfl, hi, rfl, rfl, rfl⟩
    obtain ⟨xa, xe, hVS⟩ := hs.form
    obtain ⟨ya, ye, hVT⟩ := ht.form
    by_cases hlt : (i : Int) < (ss.length : Int)
    case neg =>
      have : i = ss.length := by omega
      subst this
      have r0' := r0
      rw [hVS] at r0'
      simp (maxSteps := 1000000) (disch := first | assumption | omega | rfl | decide | simp only [fitsR, Bool.and_self]) [↓rules, rules, ↓rulesDp, rulesDq, lit_u64, Int.ofNat_inj, stops, rc_reevelaw12_StateHoldersl0, q_int, q_bool, q_geo_Geo, q_S_state_Slot, q_S_thing_Thing, q_state_State, q_cap_Cap, q_state_Slot, q_S_int, q_uint64, q_A4_uint64, q_thing_Thing, r0', hlt]
      refine rwp_loop (fun j l g2 n2 => ∃ t, j = ts.length - t ∧ t ≤ ts.length ∧ Kept g n g2 n2 ∧ n + 1 ≤ n2 ∧ g2 n = some (rowS a b c VS VT) ∧ l = [(1, .pointer (some ⟨n, 0, none⟩)), (3, .int .i64 (nU ss ss.length)), (4, .int .i64 (mS ss t)), (6, .int .i64 t)]) ?_ (k := ts.length) ?_
      · rintro j l g2 n2 ⟨t, rfl, hti, k2, hn2, r2, rfl⟩
        have r2' := r2
        rw [hVT] at r2'
        by_cases hlt2 : (t : Int) < (ts.length : Int)
        case neg =>
          have : t = ts.length := by omega
          subst this
          have heq := mS_all hcap
          simp (maxSteps := 1000000) (disch := first | assumption | omega | rfl | decide | simp only [fitsR, Bool.and_self]) [↓rules, rules, ↓rulesDp, rulesDq, lit_u64, Int.ofNat_inj, stops, rc_reevelaw12_StateHoldersl2, q_int, q_bool, q_geo_Geo, q_S_state_Slot, q_S_thing_Thing, q_state_State, q_cap_Cap, q_state_Slot, q_S_int, q_uint64, q_A4_uint64, q_thing_Thing, r2', hlt2, heq]
          exact done_q hdom k2 rfl rfl
        have hs2 := hs.ext (k2.ext hdom)
        have ht2 := ht.ext (k2.ext hdom)
        simp (maxSteps := 1000000) (disch := first | assumption | omega | rfl | decide | simp only [fitsR, Bool.and_self]) [↓rules, rules, ↓rulesDp, rulesDq, lit_u64, Int.ofNat_inj, stops, rc_reevelaw12_StateHoldersl2, q_int, q_bool, q_geo_Geo, q_S_state_Slot, q_S_thing_Thing, q_state_State, q_cap_Cap, q_state_Slot, q_S_int, q_uint64, q_A4_uint64, q_thing_Thing, r2', hlt2]
        rw [← hVT]
        refine rcall_spec (state_Holders a b c VS VT ss ts t _ _ k2.dom (by omega) (by omega) hs2 ht2) rfl (fun _ h => h.elim) rfl fun v g3 n3 ⟨p1, p2⟩ => ?_
        rw [if_pos hgd] at p1
        have k3 := k2.trans p2
        have l3 := p2.le
        have r3 : g3 n = some (rowS a b c VS VT) := by rw [p2.same n (by omega)]; exact r2
        have hs3 := hs.ext (k3.ext hdom)
        have hlen := holdU_len ss t ss.length
        rw [show holdU ss t ss.length = holdS ss t from rfl] at hlen
        have hmS := mS_le ss t
        have hmS2 : t * ss.length ≤ 50 * 100 := Nat.mul_le_mul (by omega) ls
        obtain ⟨va, ve, hvf⟩ := p1.rd.form
        simp (maxSteps := 1000000) (disch := first | assumption | omega | rfl | decide | simp only [fitsR, Bool.and_self]) [↓rules, rules, ↓rulesDp, rulesDq, lit_u64, Int.ofNat_inj, stops, q_int, q_bool, q_geo_Geo, q_S_state_Slot, q_S_thing_Thing, q_state_State, q_cap_Cap, q_state_Slot, q_S_int, q_uint64, q_A4_uint64, q_thing_Thing]
        refine rwp_loop (fun j l g4 n4 => ∃ q, j = (holdS ss t).length - q ∧ q ≤ (holdS ss t).length ∧ g4 = g3 ∧ n4 = n3 ∧ l = [(1, .pointer (some ⟨n, 0, none⟩)), (3, .int .i64 (nU ss ss.length)), (4, .int .i64 (mS ss t)), (6, .int .i64 t), (7, v), (8, .int .i64 q)]) ?_ (k := (holdS ss t).length) ?_
        · rintro j l g4 n4 ⟨q, rfl, hqi, rfl, rfl, rfl⟩
          by_cases hlt3 : (q : Int) < ((holdS ss t).length : Int)
          case neg =>
            have : q = (holdS ss t).length := by omega
            subst this
            have w3 : IntKind.i64.wrap ((mS ss t : Int) + ((holdS ss t).length : Int)) = (mS ss (t + 1) : Nat) := by rw [wrap_i64 (by omega) (by omega), mS]; omega
            have w4 : IntKind.i64.wrap ((t : Int) + 1) = ((t + 1 : Nat) : Int) := by rw [wrap_i64 (by omega) (by omega)]; omega
            simp (maxSteps := 1000000) (disch := first | assumption | omega | rfl | decide | simp only [fitsR, Bool.and_self]) [↓rules, rules, ↓rulesDp, rulesDq, lit_u64, Int.ofNat_inj, stops, rc_reevelaw12_StateHoldersl1, q_int, q_bool, q_geo_Geo, q_S_state_Slot, q_S_thing_Thing, q_state_State, q_cap_Cap, q_state_Slot, q_S_int, q_uint64, q_A4_uint64, q_thing_Thing, hvf, hlt3, w3, w4]
            exact ⟨ts.length - (t + 1), by omega, t + 1, rfl, by omega, k3, by omega, r3, by omega⟩
          have hq1 : q < (holdS ss t).length := by omega
          obtain ⟨kk, hk0, hk1, hk2, hk3⟩ := hold_mem (List.getElem_mem hq1)
          obtain ⟨b5, o5, f5, _, f6⟩ := Rd.one p1.rd hq1
          have e5 := f6 _ (Ext.refl _) Try.prog _ ta_int
          rw [hk0] at e5
          obtain ⟨b7, o7, f7, f8⟩ := rd_slot hs3 hk1
          have e7 := (f8 _ (Ext.refl _)).1 Try.prog _ ta_cap_Cap ts_cap_Cap
          obtain ⟨b9, o9, f9, _, _, f10⟩ := Rd.many cS_len hs3 hk1
          have e9 := f10 _ (Ext.refl _) Try.prog _ 1 _ (by omega) rfl ta_int
          rw [slAt_nat hk1] at hk2 hk3
          rw [f7] at f9
          cases f9
          have r3' := r3
          rw [f7] at r3'
          have hk4 : ¬ (kk : Int) < 0 := by omega
          have hk5 : (kk : Int) < ss.length := by omega
          have hk6 : ¬ (ss.length : Int) ≤ kk := by omega
          have w5 : IntKind.i64.wrap ((q : Int) + 1) = ((q + 1 : Nat) : Int) := by rw [wrap_i64 (by omega) (by omega)]; omega
          generalize hx : ss[kk] = x at *
          obtain ⟨ty, th, ri, ba, up⟩ := x
          dsimp only at hk3 e7 e9
          subst hk3
          have cN := cap_None ty t ri ba g4 n4
          rw [show noneC ty t ri ba = false from hk2] at cN
          by_cases hq0 : (0 : Int) < q
          case neg =>
            have hqn : ¬ 0 < q := by omega
            simp (maxSteps := 1000000) (disch := first | assumption | omega | rfl | decide | simp only [fitsR, Bool.and_self]) [↓rules, rules, ↓rulesDp, rulesDq, lit_u64, Int.ofNat_inj, stops, rc_reevelaw12_StateHoldersl1, q_int, q_bool, q_geo_Geo, q_S_state_Slot, q_S_thing_Thing, q_state_State, q_cap_Cap, q_state_Slot, q_S_int, q_uint64, q_A4_uint64, q_thing_Thing, f5, hlt3, e5, r3', hk4, hk5, hk6, e9, e7, hq0, hqn]
            rw [← f5, ← f7]
            refine rcall_quiet rfl cN ?_
            simp (maxSteps := 1000000) (disch := first | assumption | omega | rfl | decide | simp only [fitsR, Bool.and_self]) [↓rules, rules, ↓rulesDp, rulesDq, lit_u64, Int.ofNat_inj, stops, q_int, q_bool, q_geo_Geo, q_S_state_Slot, q_S_thing_Thing, q_state_State, q_cap_Cap, q_state_Slot, q_S_int, q_uint64, q_A4_uint64, q_thing_Thing, hq0, hqn, w5]
            exact ⟨(holdS ss t).length - (q + 1), by omega, q + 1, rfl, by omega, by omega⟩
          obtain ⟨p, hp⟩ : ∃ p : Nat, q = p + 1 := ⟨q - 1, by omega⟩
          have hpl : p < (holdS ss t).length := by omega
          obtain ⟨b6, o6, f6', _, f7'⟩ := Rd.one p1.rd hpl
          have e6 := f7' _ (Ext.refl _) Try.prog _ ta_int
          rw [f5] at f6'
          cases f6'
          have hlt4 := List.pairwise_iff_getElem.1 (hold_lt ss t) p q hpl hq1 (by omega)
          rw [hk0] at hlt4
          have hlt5 : ¬ (kk : Int) ≤ (holdS ss t)[p] := by omega
          have w6 : IntKind.i64.wrap ((q : Int) - 1) = p := by rw [wrap_i64 (by omega) (by omega)]; omega
          have hlt6 : (p : Int) < ((holdS ss t).length : Int) := by omega
          have hqn : 0 < q := by omega
          simp (maxSteps := 1000000) (disch := first | assumption | omega | rfl | decide | simp only [fitsR, Bool.and_self]) [↓rules, rules, ↓rulesDp, rulesDq, lit_u64, Int.ofNat_inj, stops, rc_reevelaw12_StateHoldersl1, q_int, q_bool, q_geo_Geo, q_S_state_Slot, q_S_thing_Thing, q_state_State, q_cap_Cap, q_state_Slot, q_S_int, q_uint64, q_A4_uint64, q_thing_Thing, f5, hlt3, e5, r3', hk4, hk5, hk6, e9, e7, hq0, hqn]
          rw [← f5, ← f7]
          refine rcall_quiet rfl cN ?_
          simp (maxSteps := 1000000) (disch := first | assumption | omega | rfl | decide | simp only [fitsR, Bool.and_self]) [↓rules, rules, ↓rulesDp, rulesDq, lit_u64, Int.ofNat_inj, stops, q_int, q_bool, q_geo_Geo, q_S_state_Slot, q_S_thing_Thing, q_state_State, q_cap_Cap, q_state_Slot, q_S_int, q_uint64, q_A4_uint64, q_thing_Thing, hq0, hqn, w5, f5, hlt3, e5, w6, hlt6, e6, hlt5]
          exact ⟨(holdS ss t).length - (q + 1), by omega, q + 1, rfl, by omega, by omega⟩
        · exact ⟨0, by simp, by simp, rfl, rfl, by rfl⟩
      · exact ⟨0, by simp, by simp, k1, by omega, r0, by rfl⟩
    have hlt1 : i < ss.length := by omega
    obtain ⟨b2, o2, f3, f4⟩ := rd_slot hs1 hlt1
    have e3 := (f4 _ (Ext.refl _)).1 Try.prog _ ta_cap_Cap ts_cap_Cap
    have r0' := r0
    rw [f3] at r0'
    have hn := nU_succ ss i
    have hnl := nU_le ss i
    unfold notN at hn
    rw [slAt_nat hlt1] at hn
    have w1 : IntKind.i64.wrap ((i : Int) + 1) = ((i + 1 : Nat) : Int) := by rw [wrap_i64 (by omega) (by omega)]; omega
    have w2 : IntKind.i64.wrap ((nU ss i : Int) + 1) = ((nU ss i + 1 : Nat) : Int) := by rw [wrap_i64 (by omega) (by omega)]; omega
    generalize hx : ss[i] = x at *
    obtain ⟨ty, th, ri, ba, up⟩ := x
    simp (maxSteps := 1000000) (disch := first | assumption | omega | rfl | decide | simp only [fitsR, Bool.and_self]) [↓rules, rules, ↓rulesDp, rulesDq, lit_u64, Int.ofNat_inj, stops, rc_reevelaw12_StateHoldersl0, q_int, q_bool, q_geo_Geo, q_S_state_Slot, q_S_thing_Thing, q_state_State, q_cap_Cap, q_state_Slot, q_S_int, q_uint64, q_A4_uint64, q_thing_Thing, r0', hlt, e3]
    refine rcall_quiet rfl (cap_None ty th ri ba _ _) ?_
    cases cn : noneC ty th ri ba
    · simp (maxSteps := 1000000) (disch := first | assumption | omega | rfl | decide | simp only [fitsR, Bool.and_self]) [↓rules, rules, ↓rulesDp, rulesDq, lit_u64, Int.ofNat_inj, stops, q_int, q_bool, q_geo_Geo, q_S_state_Slot, q_S_thing_Thing, q_state_State, q_cap_Cap, q_state_Slot, q_S_int, q_uint64, q_A4_uint64, q_thing_Thing, w1, w2]
      exact ⟨ss.length - (i + 1), by omega, i + 1, rfl, by omega, by rw [hn, if_pos (by simp [noneS, cn])]; omega, by omega⟩
    · simp (maxSteps := 1000000) (disch := first | assumption | omega | rfl | decide | simp only [fitsR, Bool.and_self]) [↓rules, rules, ↓rulesDp, rulesDq, lit_u64, Int.ofNat_inj, stops, q_int, q_bool, q_geo_Geo, q_S_state_Slot, q_S_thing_Thing, q_state_State, q_cap_Cap, q_state_Slot, q_S_int, q_uint64, q_A4_uint64, q_thing_Thing, w1]
      exact ⟨ss.length - (i + 1), by omega, i + 1, rfl, by omega, by rw [hn, if_neg (by simp [noneS, cn])]; omega, by omega⟩
  · exact ⟨0, by simp, by simp, rfl, rfl, by rfl⟩
end Go.Proofs.Ytkcahnefekkfaaa.F12H
