/- Contracts of functions: what each one returns, and what it leaves. No statement is proved here. -/
import Derived.Test.YtfcbhgiccgommaaP10Ga
set_option linter.unusedVariables false
set_option linter.unusedSimpArgs false
set_option linter.unusedSectionVars false
namespace Go.Proofs.Ytfcbhgiccgommaa.F10
open Go Go.Proofs Go.Proofs.YtfcbhgiccgommaaAbs
variable [Base]
set_option maxHeartbeats 8000000
set_option maxRecDepth 100000
/-! ### The reference's functions that read alone -/
def wkR (u : List Int) : Nat → Int → Bool
  | 0, _ => false
  | f + 1, a => if a < 0 then true else wkR u f (upAt u a)
theorem wk_walk {u : List Int} : ∀ (f : Nat) (a : Int), wkR u f a = true → walkF u f a = true
  | 0, a, h => by cases h
  | f + 1, a, h => by
    rw [wkR] at h
    rw [walkF]
    by_cases c : a < 0
    · have : isF u a = false := by simp [isF]; omega
      simp [this]
    · rw [if_neg c] at h
      simp [wk_walk f _ h]
theorem RkF.wk {u : List Int} {r : Int → Nat} (h : RkF u r) : ∀ (f : Nat) (a : Int), isF u a = true → r a + 2 ≤ f → wkR u f a = true
  | 0, a, ha, hf => by omega
  | f + 1, a, ha, hf => by
    rw [wkR]
    split
    · rfl
    · by_cases hr : upAt u a = -1
      · rw [hr]
        cases f with
        | zero => omega
        | succ f => rfl
      · obtain ⟨s1, s2⟩ := h.step a ha hr
        exact h.wk f _ s1 (by omega)
theorem good_ref {u : List Int} (hl : u.length ≤ 96) (hok : okUp u = true) : ((List.range u.length).all fun i => wkR u (u.length + 1) i) = goodF u := by
  rw [Bool.eq_iff_iff]
  constructor
  · intro h
    simp only [goodF, Bool.and_eq_true, decide_eq_true_eq, List.all_eq_true, List.mem_range]
    exact ⟨hl, hok, fun i hi => wk_walk _ _ (List.all_eq_true.1 h i (List.mem_range.2 hi))⟩
  · intro h
    have hr := good_rk h
    refine List.all_eq_true.2 fun i hi => ?_
    have hi := List.mem_range.1 hi
    by_cases c : u[i] = -2
    · show wkR u (u.length + 1) (i : Int) = true
      rw [wkR, if_neg (by omega), upAt_nat hi, c]
      cases hn : u.length with
      | zero => omega
      | succ k => rfl
    · have hf : isF u (i : Int) = true := isF_iff.2 ⟨by omega, by omega, by rw [upAt_nat hi]; exact c⟩
      exact hr.wk _ _ hf (by have := hr.lt hf; omega)
theorem ref_Good (va : Value) (u : List Int) (g : AMem) (n : Nat) (hl : u.length ≤ 100000) (ha : rdI g va u) : FnC Try.prog f_reeveref7_GoodForest [va] g n (fun _ => False) (.bool (goodF u)) g n := by
  refine fnC_of_rwp t_reeveref7_GoodForest hm rfl fun hdom => ?_
  obtain ⟨a, ea, hva⟩ := ha.form
  have k1 := Kept.refl hdom
  by_cases c1 : (96 : Int) < u.length
  case pos =>
    rw [show goodF u = false by unfold goodF; rw [decide_eq_false (show ¬ u.length ≤ 96 by omega), Bool.false_and]]
    simp (maxSteps := 1000000) (disch := first | assumption | omega | rfl | decide | simp only [fitsR, Bool.and_self]) [↓rules, rules, ↓rulesDp, rulesDq, lit_u64, Int.ofNat_inj, stops, rc_reeveref7_GoodForest, q_int, q_bool, q_S_int, hva, c1]
    exact done_q hdom k1 rfl rfl
  simp (maxSteps := 1000000) (disch := first | assumption | omega | rfl | decide | simp only [fitsR, Bool.and_self]) [↓rules, rules, ↓rulesDp, rulesDq, lit_u64, Int.ofNat_inj, stops, rc_reeveref7_GoodForest, q_int, q_bool, q_S_int, hva, c1]
  rw [← hva]
  refine rwp_loop (fun j l g' n' => ∃ i, j = u.length - i ∧ i ≤ u.length ∧ g' = g ∧ n' = n ∧ okUp u = (u.drop i).all (upOk u) ∧ l = [(0, va), (3, .int .i64 i)]) ?_ (k := u.length) ?_
  · rintro j l g' n' ⟨i, rfl, hi, rfl, rfl, he, rfl⟩
    by_cases hlt : (i : Int) < (u.length : Int)
    case neg =>
      have : i = u.length := by omega
      subst this
      rw [List.drop_length] at he
      have hok : okUp u = true := he
      simp (maxSteps := 1000000) (disch := first | assumption | omega | rfl | decide | simp only [fitsR, Bool.and_self]) [↓rules, rules, ↓rulesDp, rulesDq, lit_u64, Int.ofNat_inj, stops, rc_reeveref7_GoodForestl0, q_int, q_bool, q_S_int, hlt, hva]
      rw [← hva, ← good_ref (by omega) hok]
      refine rwp_loop (fun j l g2 n2 => ∃ i, j = u.length - i ∧ i ≤ u.length ∧ g2 = g' ∧ n2 = n' ∧ (List.range i).all (fun i => wkR u (u.length + 1) i) = true ∧ l = [(0, va), (4, .int .i64 i)]) ?_ (k := u.length) ?_
      · rintro j l g2 n2 ⟨i, rfl, hi, rfl, rfl, hr, rfl⟩
        by_cases hlt : (i : Int) < (u.length : Int)
        case neg =>
          have : i = u.length := by omega
          subst this
          simp (maxSteps := 1000000) (disch := first | assumption | omega | rfl | decide | simp only [fitsR, Bool.and_self]) [↓rules, rules, ↓rulesDp, rulesDq, lit_u64, Int.ofNat_inj, stops, rc_reeveref7_GoodForestl2, q_int, q_bool, q_S_int, hlt, hva]
          refine done_q hdom k1 rfl ?_
          rw [hr]; rfl
        simp (maxSteps := 1000000) (disch := first | assumption | omega | rfl | decide | simp only [fitsR, Bool.and_self]) [↓rules, rules, ↓rulesDp, rulesDq, lit_u64, Int.ofNat_inj, stops, rc_reeveref7_GoodForestl2, q_int, q_bool, q_S_int, hlt, hva]
        rw [← hva]
        have w1 : IntKind.i64.wrap ((i : Int) + 1) = ((i + 1 : Nat) : Int) := by rw [wrap_i64 (by omega) (by omega)]; omega
        refine rwp_loop (fun j l g3 n3 => ∃ (c : Nat) (a : Int), j = u.length + 2 - c ∧ c ≤ u.length + 1 ∧ g3 = g2 ∧ n3 = n2 ∧ a < u.length ∧ wkR u (u.length + 1) i = wkR u (u.length + 1 - c) a ∧ l = [(0, va), (4, .int .i64 i), (5, .int .i64 c), (6, .int .i64 a)]) ?_ (k := u.length + 2) ?_
        · rintro j l g3 n3 ⟨c, a, rfl, hc, rfl, rfl, han, hwk, rfl⟩
          have fin : wkR u (u.length + 1) i = true → ∃ k', k' < u.length - i ∧ ∃ k, k' = u.length - k ∧ k ≤ u.length ∧ (∀ x, x < k → wkR u (u.length + 1) (x : Nat) = true) ∧ (i : Int) + 1 = (k : Int) := fun hw => ⟨u.length - (i + 1), by omega, i + 1, rfl, by omega, fun x hx => by
              rcases Nat.lt_or_eq_of_le (Nat.le_of_lt_succ hx) with h | rfl
              · exact List.all_eq_true.1 hr x (List.mem_range.2 h)
              · exact hw, by omega⟩
          have bad : wkR u (u.length + 1) i = false → ((List.range u.length).all fun i => wkR u (u.length + 1) i) = false := fun hw => by
            rw [List.all_eq_false]
            exact ⟨i, List.mem_range.2 (by omega), by simp [hw]⟩
          by_cases c3 : c ≤ u.length
          · have c3' : (c : Int) ≤ u.length := by omega
            have c3'' : ¬ (u.length : Int) < c := by omega
            by_cases c2 : 0 ≤ a
            · obtain ⟨q, rfl⟩ : ∃ q : Nat, a = q := ⟨a.toNat, by omega⟩
              have hq : q < u.length := by omega
              obtain ⟨b1, o1, h1, _, h2⟩ := ha.one hq
              have e2 := h2 _ (Ext.refl _) Try.prog _ ta_int
              have w2 : IntKind.i64.wrap ((c : Int) + 1) = ((c + 1 : Nat) : Int) := by rw [wrap_i64 (by omega) (by omega)]; omega
              simp (maxSteps := 1000000) (disch := first | assumption | omega | rfl | decide | simp only [fitsR, Bool.and_self]) [↓rules, rules, ↓rulesDp, rulesDq, lit_u64, Int.ofNat_inj, stops, rc_reeveref7_GoodForestl1, q_int, q_bool, q_S_int, c2, c3', h1, han, e2, w2]
              refine ⟨u.length + 2 - (c + 1), by omega, c + 1, rfl, by omega, u[q], ?_, ?_, by omega, rfl⟩
              · have := List.all_eq_true.1 hok _ (List.getElem_mem hq)
                simp only [upOk, Bool.or_eq_true, decide_eq_true_eq] at this
                rcases this with (h | h) | h
                · omega
                · omega
                · exact (isF_iff.1 h).2.1
              · rw [hwk, show u.length + 1 - c = (u.length + 1 - (c + 1)) + 1 by omega, wkR, if_neg (by omega), upAt_nat hq]
            · simp (maxSteps := 1000000) (disch := first | assumption | omega | rfl | decide | simp only [fitsR, Bool.and_self]) [↓rules, rules, ↓rulesDp, rulesDq, lit_u64, Int.ofNat_inj, stops, rc_reeveref7_GoodForestl1, q_int, q_bool, q_S_int, c2, c3'', hva, w1]
              refine fin ?_
              rw [hwk, show u.length + 1 - c = (u.length - c) + 1 by omega, wkR, if_pos (by omega)]
          · have hc1 : c = u.length + 1 := by omega
            have hw : wkR u (u.length + 1) i = false := by rw [hwk, show u.length + 1 - c = 0 by omega]; rfl
            have c3' : ¬ (c : Int) ≤ u.length := by omega
            have c3'' : (u.length : Int) < c := by omega
            by_cases c2 : 0 ≤ a
            · simp (maxSteps := 1000000) (disch := first | assumption | omega | rfl | decide | simp only [fitsR, Bool.and_self]) [↓rules, rules, ↓rulesDp, rulesDq, lit_u64, Int.ofNat_inj, stops, rc_reeveref7_GoodForestl1, q_int, q_bool, q_S_int, c2, c3', c3'', hva]
              refine done_q hdom k1 rfl ?_
              rw [bad hw]; rfl
            · simp (maxSteps := 1000000) (disch := first | assumption | omega | rfl | decide | simp only [fitsR, Bool.and_self]) [↓rules, rules, ↓rulesDp, rulesDq, lit_u64, Int.ofNat_inj, stops, rc_reeveref7_GoodForestl1, q_int, q_bool, q_S_int, c2, c3', c3'', hva]
              refine done_q hdom k1 rfl ?_
              rw [bad hw]; rfl
        · exact ⟨0, i, by simp, by omega, rfl, rfl, hlt, rfl, by rfl⟩
      · exact ⟨0, by simp, by simp, rfl, rfl, rfl, by rfl⟩
    have hlt1 : i < u.length := by omega
    obtain ⟨b1, o1, h1, _, h2⟩ := ha.one hlt1
    have e2 := h2 g' (Ext.refl _) Try.prog _ ta_int
    rw [List.drop_eq_getElem_cons hlt1, List.all_cons] at he
    have w1 : IntKind.i64.wrap ((i : Int) + 1) = ((i + 1 : Nat) : Int) := by rw [wrap_i64 (by omega) (by omega)]; omega
    have fin : upOk u u[i] = true → ∃ k', k' < u.length - i ∧ ∃ k, k' = u.length - k ∧ k ≤ u.length ∧ okUp u = (u.drop k).all (upOk u) ∧ (i : Int) + 1 = (k : Int) := fun h => ⟨u.length - (i + 1), by omega, i + 1, rfl, by omega, by rw [he, h, Bool.true_and], by omega⟩
    have bad : upOk u u[i] = false → goodF u = false := fun h => by
      unfold goodF
      rw [he, h]
      simp
    by_cases c2 : u[i] < -2
    · simp (maxSteps := 1000000) (disch := first | assumption | omega | rfl | decide | simp only [fitsR, Bool.and_self]) [↓rules, rules, ↓rulesDp, rulesDq, lit_u64, Int.ofNat_inj, stops, rc_reeveref7_GoodForestl0, q_int, q_bool, q_S_int, hlt, hlt1, h1, e2, c2]
      refine done_q hdom k1 rfl ?_
      rw [bad (by simp [upOk, isF]; omega)]; rfl
    by_cases c3 : (u.length : Int) ≤ u[i]
    · simp (maxSteps := 1000000) (disch := first | assumption | omega | rfl | decide | simp only [fitsR, Bool.and_self]) [↓rules, rules, ↓rulesDp, rulesDq, lit_u64, Int.ofNat_inj, stops, rc_reeveref7_GoodForestl0, q_int, q_bool, q_S_int, hlt, hlt1, h1, e2, c2, c3]
      refine done_q hdom k1 rfl ?_
      rw [bad (by simp [upOk, isF]; omega)]; rfl
    by_cases c4 : 0 ≤ u[i]
    · obtain ⟨q, hq⟩ : ∃ q : Nat, u[i] = q := ⟨u[i].toNat, by omega⟩
      rw [hq] at c2 c3 c4 e2
      have hqn : q < u.length := by omega
      have hqn' : (q : Int) < u.length := by omega
      obtain ⟨b3, o3, h3, _, h4⟩ := ha.one hqn
      have e4 := h4 g' (Ext.refl _) Try.prog _ ta_int
      rw [h1] at h3
      simp only [Value.slice.injEq, Option.some.injEq, Addr.mk.injEq] at h3
      obtain ⟨⟨rfl, rfl, _⟩, _⟩ := h3
      by_cases c5 : u[q] = -2
      · simp (maxSteps := 1000000) (disch := first | assumption | omega | rfl | decide | simp only [fitsR, Bool.and_self]) [↓rules, rules, ↓rulesDp, rulesDq, lit_u64, Int.ofNat_inj, stops, rc_reeveref7_GoodForestl0, q_int, q_bool, q_S_int, hlt, hlt1, h1, e2, c2, c3, c4, hqn', e4, c5]
        refine done_q hdom k1 rfl ?_
        rw [bad (by rw [hq]; simp [upOk, isF, upAt_nat hqn, c5])]; rfl
      · simp (maxSteps := 1000000) (disch := first | assumption | omega | rfl | decide | simp only [fitsR, Bool.and_self]) [↓rules, rules, ↓rulesDp, rulesDq, lit_u64, Int.ofNat_inj, stops, rc_reeveref7_GoodForestl0, q_int, q_bool, q_S_int, hlt, hlt1, h1, e2, c2, c3, c4, hqn', e4, c5, w1]
        exact fin (by rw [hq]; simp [upOk, isF, upAt_nat hqn, c5, hqn])
    · simp (maxSteps := 1000000) (disch := first | assumption | omega | rfl | decide | simp only [fitsR, Bool.and_self]) [↓rules, rules, ↓rulesDp, rulesDq, lit_u64, Int.ofNat_inj, stops, rc_reeveref7_GoodForestl0, q_int, q_bool, q_S_int, hlt, hlt1, h1, e2, c2, c3, c4, w1]
      exact fin (by simp [upOk]; omega)
  · exact ⟨0, by simp, by simp, rfl, rfl, by rw [List.drop_zero]; rfl, by rfl⟩
theorem ref_There (va : Value) (u : List Int) (i : Int) (g : AMem) (n : Nat) (hl : u.length ≤ 100000) (ha : rdI g va u) : FnC Try.prog f_reeveref7_There [va, .int .i64 i] g n (fun _ => False) (.bool (mayF u i)) g n := by
  refine fnC_of_rwp t_reeveref7_There hm rfl fun hdom => ?_
  have k1 := Kept.refl hdom
  obtain ⟨a, ea, hva⟩ := ha.form
  simp (maxSteps := 1000000) (disch := first | assumption | omega | rfl | decide | simp only [fitsR, Bool.and_self]) [↓rules, rules, ↓rulesDp, rulesDq, lit_u64, Int.ofNat_inj, stops, rc_reeveref7_There, q_int, q_bool, q_S_int]
  refine rcall_quiet rfl (ref_Good va u _ _ hl ha) ?_
  unfold mayF
  cases cg : goodF u
  · simp (maxSteps := 1000000) (disch := first | assumption | omega | rfl | decide | simp only [fitsR, Bool.and_self]) [↓rules, rules, ↓rulesDp, rulesDq, lit_u64, Int.ofNat_inj, stops, q_int, q_bool, q_S_int]
    exact done_q hdom k1 rfl rfl
  rw [Bool.true_and]
  by_cases c1 : 0 ≤ i
  case neg =>
    rw [show isF u i = false by simp [isF, c1]]
    simp (maxSteps := 1000000) (disch := first | assumption | omega | rfl | decide | simp only [fitsR, Bool.and_self]) [↓rules, rules, ↓rulesDp, rulesDq, lit_u64, Int.ofNat_inj, stops, q_int, q_bool, q_S_int, hva, c1]
    exact done_q hdom k1 rfl rfl
  by_cases c2 : i < (u.length : Int)
  case neg =>
    rw [show isF u i = false by simp [isF, c2]]
    simp (maxSteps := 1000000) (disch := first | assumption | omega | rfl | decide | simp only [fitsR, Bool.and_self]) [↓rules, rules, ↓rulesDp, rulesDq, lit_u64, Int.ofNat_inj, stops, q_int, q_bool, q_S_int, hva, c1, c2]
    exact done_q hdom k1 rfl rfl
  obtain ⟨k, rfl⟩ : ∃ k : Nat, i = k := ⟨i.toNat, by omega⟩
  have hk : k < u.length := by omega
  obtain ⟨b1, o1, h1, _, h2⟩ := ha.one hk
  have e1 := h2 _ (Ext.refl _) Try.prog _ ta_int
  simp (maxSteps := 1000000) (disch := first | assumption | omega | rfl | decide | simp only [fitsR, Bool.and_self]) [↓rules, rules, ↓rulesDp, rulesDq, lit_u64, Int.ofNat_inj, stops, q_int, q_bool, q_S_int, h1, c1, c2, e1]
  refine done_q hdom k1 rfl ?_
  rw [show isF u (k : Int) = !decide (u[k] = -2) by simp [isF, upAt_nat hk, hk]]
  rfl
theorem ref_Depth (va : Value) (u : List Int) (i : Int) (g : AMem) (n : Nat) (hl : u.length ≤ 100000) (ha : rdI g va u) : FnC Try.prog f_reeveref7_Depth [va, .int .i64 i] g n (fun _ => False) (.int .i64 (depthS u i)) g n := by
  refine fnC_of_rwp t_reeveref7_Depth hm rfl fun hdom => ?_
  have k1 := Kept.refl hdom
  simp (maxSteps := 1000000) (disch := first | assumption | omega | rfl | decide | simp only [fitsR, Bool.and_self]) [↓rules, rules, ↓rulesDp, rulesDq, lit_u64, Int.ofNat_inj, stops, rc_reeveref7_Depth, q_int, q_bool, q_S_int]
  refine rcall_quiet rfl (ref_There va u i _ _ hl ha) ?_
  unfold depthS
  cases cg : mayF u i
  · simp (maxSteps := 1000000) (disch := first | assumption | omega | rfl | decide | simp only [fitsR, Bool.and_self]) [↓rules, rules, ↓rulesDp, rulesDq, lit_u64, Int.ofNat_inj, stops, q_int, q_bool, q_S_int]
    exact done_q hdom k1 rfl rfl
  obtain ⟨cg, ci⟩ := mayF_iff.1 cg
  have hr := good_rk cg
  obtain ⟨a0, a1, a2⟩ := isF_iff.1 ci
  obtain ⟨q, rfl⟩ : ∃ q : Nat, i = q := ⟨i.toNat, by omega⟩
  have hq : q < u.length := by omega
  obtain ⟨b1, o1, h1, _, h2⟩ := ha.one hq
  have e2 := h2 _ (Ext.refl _) Try.prog _ ta_int
  simp (maxSteps := 1000000) (disch := first | assumption | omega | rfl | decide | simp only [fitsR, Bool.and_self]) [↓rules, rules, ↓rulesDp, rulesDq, lit_u64, Int.ofNat_inj, stops, q_int, q_bool, q_S_int, h1, a1, e2]
  rw [← h1]
  have hlt := hr.lt ci
  refine rwp_loop (fun j l g' n' => ∃ (c : Nat) (a : Int), j = u.length + 1 - c ∧ c ≤ u.length ∧ g' = g ∧ n' = n ∧ (a = -1 ∧ c = dpt u q ∨ isF u a = true ∧ c + 1 + dpt u a = dpt u q) ∧ l = [(0, va), (5, .int .i64 c), (6, .int .i64 a)]) ?_ (k := u.length + 1) ?_
  · rintro j l g' n' ⟨c, a, rfl, hc, rfl, rfl, hca, rfl⟩
    rcases hca with ⟨rfl, hcd⟩ | ⟨hia, hcd⟩
    · simp (maxSteps := 1000000) (disch := first | assumption | omega | rfl | decide | simp only [fitsR, Bool.and_self]) [↓rules, rules, ↓rulesDp, rulesDq, lit_u64, Int.ofNat_inj, stops, rc_reeveref7_Depthl0, q_int, q_bool, q_S_int]
      refine done_q hdom k1 rfl ?_
      rw [← hcd]; rfl
    · obtain ⟨x0, x1, x2⟩ := isF_iff.1 hia
      obtain ⟨p, rfl⟩ : ∃ p : Nat, a = p := ⟨a.toNat, by omega⟩
      have hp : p < u.length := by omega
      obtain ⟨b3, o3, h3, _, h4⟩ := ha.one hp
      have e4 := h4 g' (Ext.refl _) Try.prog _ ta_int
      have w1 : IntKind.i64.wrap ((c : Int) + 1) = ((c + 1 : Nat) : Int) := by rw [wrap_i64 (by omega) (by omega)]; omega
      simp (maxSteps := 1000000) (disch := first | assumption | omega | rfl | decide | simp only [fitsR, Bool.and_self]) [↓rules, rules, ↓rulesDp, rulesDq, lit_u64, Int.ofNat_inj, stops, rc_reeveref7_Depthl0, q_int, q_bool, q_S_int, x0, h3, x1, e4, w1]
      refine ⟨u.length + 1 - (c + 1), by omega, c + 1, rfl, by omega, ?_, by omega⟩
      rw [← upAt_nat hp]
      by_cases hr1 : upAt u p = -1
      · left; have := hr.root _ hia hr1; exact ⟨hr1, by omega⟩
      · right
        obtain ⟨s1, s2⟩ := hr.step _ hia hr1
        exact ⟨s1, by omega⟩
  · refine ⟨0, u[q], by simp, by omega, rfl, rfl, ?_, by rfl⟩
    rw [← upAt_nat hq]
    by_cases hr1 : upAt u q = -1
    · left; have := hr.root _ ci hr1; exact ⟨hr1, by omega⟩
    · right
      obtain ⟨s1, s2⟩ := hr.step _ ci hr1
      exact ⟨s1, by omega⟩
end Go.Proofs.Ytfcbhgiccgommaa.F10

namespace Go.Proofs.Ytfcbhgiccgommaa.F10
open Go Go.Proofs Go.Proofs.YtfcbhgiccgommaaAbs
variable [Base]
set_option maxHeartbeats 8000000
set_option maxRecDepth 100000
/-! ### The reference's functions that tell lists -/
theorem ref_Kids (va : Value) (u : List Int) (i : Int) (g : AMem) (n : Nat) (hdom : ∀ i, g i ≠ none → i < n) (hl : u.length ≤ 100000) (ha : rdI g va u) :
    FnS Try.prog f_reeveref7_Kids [va, .int .i64 i] g n (fun _ => False) fun v g' n' => Gi n g' v (kidsS u i) ∧ Kept g n g' n' := by
  refine fnS_of_rwp t_reeveref7_Kids hm rfl hdom ?_
  obtain ⟨a, ea, hva⟩ := ha.form
  unfold kidsS
  simp (maxSteps := 1000000) (disch := first | assumption | omega | rfl | decide | simp only [fitsR, Bool.and_self]) [↓rules, rules, ↓rulesDp, rulesDq, lit_u64, Int.ofNat_inj, stops, rc_reeveref7_Kids, q_int, q_bool, q_S_int]
  refine rwp_loop (fun j l g' n' => ∃ k V, j = u.length - k ∧ k ≤ u.length ∧ (0 < k → mayF u i = true) ∧ Kept g n g' n' ∧ Gi n g' V (kidsU u i k) ∧ l = [(0, va), (1, .int .i64 i), (5, V), (6, .int .i64 k)]) ?_ (k := u.length) ?_
  · rintro j l g' n' ⟨k, V, rfl, hk, hmk, hkp, hV, rfl⟩
    by_cases hlt : (k : Int) < (u.length : Int)
    case neg =>
      have : k = u.length := by omega
      subst this
      have hres : Gi n g' V (if mayF u i = true then kidsF u i else []) := by
        by_cases h0 : 0 < u.length
        · rw [if_pos (hmk h0)]; exact hV
        · have : u = [] := List.length_eq_zero_iff.1 (by omega)
          subst this
          have : mayF [] i = false := by simp [mayF, isF]; omega
          rw [this, if_neg (by simp)]; exact hV
      simp (maxSteps := 1000000) (disch := first | assumption | omega | rfl | decide | simp only [fitsR, Bool.and_self]) [↓rules, rules, ↓rulesDp, rulesDq, lit_u64, Int.ofNat_inj, stops, rc_reeveref7_Kidsl0, q_int, q_bool, q_S_int, hva, hlt]
      exact sdone_ret rfl ⟨hres, hkp⟩
    have hlt1 : k < u.length := by omega
    have hag := ha.ext (hkp.ext hdom)
    obtain ⟨b1, o1, h1, _, h2⟩ := hag.one hlt1
    have e2 := h2 _ (Ext.refl _) Try.prog _ ta_int
    have w1 : IntKind.i64.wrap ((k : Int) + 1) = ((k + 1 : Nat) : Int) := by rw [wrap_i64 (by omega) (by omega)]; omega
    have hs := kidsU_succ u i k
    rw [upAt_nat hlt1] at hs
    have hlen := kidsU_len u i k
    simp (maxSteps := 1000000) (disch := first | assumption | omega | rfl | decide | simp only [fitsR, Bool.and_self]) [↓rules, rules, ↓rulesDp, rulesDq, lit_u64, Int.ofNat_inj, stops, rc_reeveref7_Kidsl0, q_int, q_bool, q_S_int, hva, hlt]
    rw [← hva]
    refine rcall_quiet rfl (ref_There va u i _ _ hl hag) ?_
    cases cm : mayF u i
    · have k0 : k = 0 := by
        rcases Nat.eq_zero_or_pos k with h | h
        · exact h
        · have := hmk h; rw [cm] at this; cases this
      subst k0
      simp (maxSteps := 1000000) (disch := first | assumption | omega | rfl | decide | simp only [fitsR, Bool.and_self]) [↓rules, rules, ↓rulesDp, rulesDq, lit_u64, Int.ofNat_inj, stops, q_int, q_bool, q_S_int]
      exact sdone_ret rfl ⟨hV, hkp⟩
    by_cases c : u[k] = i
    · rw [if_pos c] at hs
      rcases hV with ⟨rfl, hnil⟩ | ⟨bV, hbV, rfl, hgV⟩
      · simp (maxSteps := 1000000) (disch := first | assumption | omega | rfl | decide | simp only [fitsR, Bool.and_self]) [↓rules, rules, ↓rulesDp, rulesDq, lit_u64, Int.ofNat_inj, stops, q_int, q_bool, q_S_int, hlt, h1, e2, c, w1]
        refine ⟨u.length - (k + 1), by omega, k + 1, rfl, by omega, (hkp.new _).new _, _, ?_, rfl, by omega⟩
        rw [hs, hnil]
        exact Or.inr ⟨n' + 1, by have := hkp.le; omega, rfl, by simp [gset]⟩
      · have hbm := hkp.dom bV (by rw [hgV]; simp)
        have hbn1 : bV ≠ n' := by omega
        generalize hcs : kidsU u i k = cs at *
        have hsz : (cs.length + 1) * 8 ≤ 70368744177664 := by omega
        have hsz2 : cs.length ≤ 70368744177663 := by omega
        simp (maxSteps := 1000000) (disch := first | assumption | omega | rfl | decide | simp only [fitsR, Bool.and_self]) [↓rules, rules, ↓rulesDp, rulesDq, lit_u64, Int.ofNat_inj, stops, q_int, q_bool, q_S_int, hlt, h1, e2, c, w1, hgV, hbn1, hsz, hsz2]
        refine ⟨hbV, u.length - (k + 1), by omega, k + 1, rfl, by omega, ((hkp.new _).drop hbV).new _, _, ?_, rfl, by omega⟩
        rw [hs]
        exact Or.inr ⟨n' + 1, by have := hkp.le; omega, by simp, by simp [gset, cI]⟩
    · rw [if_neg c, List.append_nil] at hs
      simp (maxSteps := 1000000) (disch := first | assumption | omega | rfl | decide | simp only [fitsR, Bool.and_self]) [↓rules, rules, ↓rulesDp, rulesDq, lit_u64, Int.ofNat_inj, stops, q_int, q_bool, q_S_int, hlt, h1, e2, c, w1]
      exact ⟨u.length - (k + 1), by omega, k + 1, rfl, by omega, hkp, V, by rw [hs]; exact hV, rfl, by omega⟩
  · exact ⟨0, .slice none 0 0, by simp, by simp, by simp, Kept.refl hdom, Or.inl ⟨rfl, rfl⟩, by rfl⟩
def belU (u : List Int) (i : Int) (k : Nat) : List Int := ((List.range k).filter fun k => isF u (k : Nat) && decide (i ∈ ancs u (k : Nat))).map Int.ofNat
theorem belU_succ (u : List Int) (i : Int) (k : Nat) : belU u i (k + 1) = belU u i k ++ if isF u (k : Nat) = true ∧ i ∈ ancs u (k : Nat) then [(k : Int)] else [] := by
  unfold belU
  rw [List.range_succ, List.filter_append, List.map_append]
  by_cases c : isF u (k : Nat) = true ∧ i ∈ ancs u (k : Nat)
  · simp [c.1, c.2]
  · rw [if_neg c]
    by_cases c1 : isF u (k : Nat) = true
    · have c2 : i ∉ ancs u (k : Nat) := fun h => c ⟨c1, h⟩
      simp [c1, c2]
    · simp [c1]
theorem belU_len (u : List Int) (i : Int) (k : Nat) : (belU u i k).length ≤ k := by
  unfold belU
  rw [List.length_map]
  exact Nat.le_trans (List.length_filter_le _ _) (by simp)
/-- Where the inner loop stands: not yet met, or met. -/
def midB (n : Nat) (g : AMem) (V : Value) (u cs : List Int) (i : Int) (k : Nat) (a : Int) : Prop :=
  (Gi n g V cs ∧ ((isF u (k : Nat) = true ∧ i ∈ ancs u (k : Nat)) ↔ (isF u a = true ∧ (a = i ∨ i ∈ ancs u a)))) ∨ (Gi n g V (cs ++ [(k : Int)]) ∧ (isF u (k : Nat) = true ∧ i ∈ ancs u (k : Nat)) ∧ (isF u a = true → a ≠ i ∧ i ∉ ancs u a))
theorem ref_Below (va : Value) (u : List Int) (i : Int) (g : AMem) (n : Nat) (hdom : ∀ i, g i ≠ none → i < n) (hl : u.length ≤ 100000) (ha : rdI g va u) :
    FnS Try.prog f_reeveref7_Below [va, .int .i64 i] g n (fun _ => False) fun v g' n' => Gi n g' v (belS u i) ∧ Kept g n g' n' := by
  refine fnS_of_rwp t_reeveref7_Below hm rfl hdom ?_
  obtain ⟨a, ea, hva⟩ := ha.form
  unfold belS
  simp (maxSteps := 1000000) (disch := first | assumption | omega | rfl | decide | simp only [fitsR, Bool.and_self]) [↓rules, rules, ↓rulesDp, rulesDq, lit_u64, Int.ofNat_inj, stops, rc_reeveref7_Below, q_int, q_bool, q_S_int]
  refine rwp_loop (fun j l g' n' => ∃ k V, j = u.length - k ∧ k ≤ u.length ∧ (0 < k → mayF u i = true) ∧ Kept g n g' n' ∧ Gi n g' V (belU u i k) ∧ l = [(0, va), (1, .int .i64 i), (5, V), (6, .int .i64 k)]) ?_ (k := u.length) ?_
  · rintro j l g' n' ⟨k, V, rfl, hk, hmk, hkp, hV, rfl⟩
    by_cases hlt : (k : Int) < (u.length : Int)
    case neg =>
      have : k = u.length := by omega
      subst this
      have hres : Gi n g' V (if mayF u i = true then belF u i else []) := by
        by_cases h0 : 0 < u.length
        · rw [if_pos (hmk h0)]; exact hV
        · have : u = [] := List.length_eq_zero_iff.1 (by omega)
          subst this
          have : mayF [] i = false := by simp [mayF, isF]; omega
          rw [this, if_neg (by simp)]; exact hV
      simp (maxSteps := 1000000) (disch := first | assumption | omega | rfl | decide | simp only [fitsR, Bool.and_self]) [↓rules, rules, ↓rulesDp, rulesDq, lit_u64, Int.ofNat_inj, stops, rc_reeveref7_Belowl1, q_int, q_bool, q_S_int, hva, hlt]
      exact sdone_ret rfl ⟨hres, hkp⟩
    have hlt1 : k < u.length := by omega
    have hag := ha.ext (hkp.ext hdom)
    obtain ⟨b1, o1, h1, _, h2⟩ := hag.one hlt1
    have e2 := h2 _ (Ext.refl _) Try.prog _ ta_int
    have w1 : IntKind.i64.wrap ((k : Int) + 1) = ((k + 1 : Nat) : Int) := by rw [wrap_i64 (by omega) (by omega)]; omega
    have hs := belU_succ u i k
    have hlen := belU_len u i k
    simp (maxSteps := 1000000) (disch := first | assumption | omega | rfl | decide | simp only [fitsR, Bool.and_self]) [↓rules, rules, ↓rulesDp, rulesDq, lit_u64, Int.ofNat_inj, stops, rc_reeveref7_Belowl1, q_int, q_bool, q_S_int, hva, hlt]
    rw [← hva]
    refine rcall_quiet rfl (ref_There va u i _ _ hl hag) ?_
    cases cm : mayF u i
    · have k0 : k = 0 := by
        rcases Nat.eq_zero_or_pos k with h | h
        · exact h
        · have := hmk h; rw [cm] at this; cases this
      subst k0
      simp (maxSteps := 1000000) (disch := first | assumption | omega | rfl | decide | simp only [fitsR, Bool.and_self]) [↓rules, rules, ↓rulesDp, rulesDq, lit_u64, Int.ofNat_inj, stops, q_int, q_bool, q_S_int]
      exact sdone_ret rfl ⟨hV, hkp⟩
    obtain ⟨cg, ci⟩ := mayF_iff.1 cm
    have hr := good_rk cg
    have hi0 := (isF_iff.1 ci).1
    simp (maxSteps := 1000000) (disch := first | assumption | omega | rfl | decide | simp only [fitsR, Bool.and_self]) [↓rules, rules, ↓rulesDp, rulesDq, lit_u64, Int.ofNat_inj, stops, q_int, q_bool, q_S_int, hlt, h1, e2]
    rw [← h1]
    generalize hcs : belU u i k = cs at *
    refine rwp_loop (fun j l g3 n3 => ∃ (a : Int) (V : Value), j = (if isF u a = true then dpt u a + 1 else 0) ∧ (a < 0 ∨ isF u a = true) ∧ Kept g n g3 n3 ∧ midB n g3 V u cs i k a ∧ l = [(0, va), (1, .int .i64 i), (5, V), (6, .int .i64 k), (7, .int .i64 a)]) ?_ (k := (if isF u u[k] = true then dpt u u[k] + 1 else 0)) ?_
    · rintro j l g3 n3 ⟨a, V, rfl, hav, hk3, hmid, rfl⟩
      have fin : isF u a = false → Gi n g3 V (belU u i (k + 1)) := fun hia => by
        rw [hs]
        rcases hmid with ⟨h1, h2⟩ | ⟨h1, h2, _⟩
        · rw [if_neg (fun h => by have := (h2.1 h).1; rw [hia] at this; cases this), List.append_nil]; exact h1
        · rw [if_pos h2]; exact h1
      by_cases c0 : 0 ≤ a
      case neg =>
        have hia : isF u a = false := by simp [isF, c0]
        simp (maxSteps := 1000000) (disch := first | assumption | omega | rfl | decide | simp only [fitsR, Bool.and_self]) [↓rules, rules, ↓rulesDp, rulesDq, lit_u64, Int.ofNat_inj, stops, rc_reeveref7_Belowl0, q_int, q_bool, q_S_int, c0, w1]
        exact ⟨u.length - (k + 1), by omega, k + 1, rfl, by omega, hk3, V, fin hia, rfl, by omega⟩
      have hia : isF u a = true := by
        rcases hav with h | h
        · omega
        · exact h
      obtain ⟨_, a1, a2⟩ := isF_iff.1 hia
      obtain ⟨p, rfl⟩ : ∃ p : Nat, a = p := ⟨a.toNat, by omega⟩
      have hp : p < u.length := by omega
      obtain ⟨b3, o3, h3, _, h4⟩ := ha.one hp
      have hup := upAt_nat hp
      rw [if_pos hia]
      have hdec : (if isF u u[p] = true then dpt u u[p] + 1 else 0) < dpt u (p : Int) + 1 := by
        split
        · rename_i h
          by_cases hn : upAt u (p : Int) = -1
          · rw [hup] at hn; rw [hn, ne_root] at h; cases h
          · have := (hr.step _ hia hn).2
            rw [hup] at this; omega
        · omega
      have hnext : u[p] < 0 ∨ isF u u[p] = true := by
        by_cases hn : upAt u (p : Int) = -1
        · left; rw [hup] at hn; omega
        · right; have := (hr.step _ hia hn).1; rwa [hup] at this
      have hanc : isF u u[p] = true → ancs u (p : Int) = u[p] :: ancs u u[p] := fun h => by
        have hn : upAt u (p : Int) ≠ -1 := fun hn => by rw [hup] at hn; rw [hn, ne_root] at h; cases h
        rw [hr.ancs_step hia hn, hup]
      have hancn : isF u u[p] = false → ancs u (p : Int) = [] := fun h => by
        refine hr.ancs_root hia ?_
        rcases hnext with h' | h'
        · rcases Classical.em (upAt u (p : Int) = -1) with e | e
          · exact e
          · have := (hr.step _ hia e).1; rw [hup, h] at this; cases this
        · rw [h] at h'; cases h'
      have e4 := fun (G : AMem) (hx : Ext g G) => h4 G hx Try.prog _ ta_int
      by_cases c : (p : Int) = i
      · subst c
        have hself := hr.self ci
        rcases hmid with ⟨m1, m2⟩ | ⟨m1, m2, m3⟩
        · have hanc' : isF u (k : Nat) = true ∧ (p : Int) ∈ ancs u (k : Nat) := m2.2 ⟨hia, Or.inl rfl⟩
          have hnew : isF u u[p] = true → u[p] ≠ p ∧ (p : Int) ∉ ancs u u[p] := fun h => by
            have hh := hanc h
            rw [hh] at hself
            exact ⟨fun e => hself (by rw [e]; exact List.mem_cons_self), fun e => hself (List.mem_cons_of_mem _ e)⟩
          rcases m1 with ⟨rfl, hnil⟩ | ⟨bV, hbV, rfl, hgV⟩
          · have kk := (hk3.new (.row [.int .i64 k] true)).new (.row [.int .i64 k] true)
            have e5 := e4 _ (kk.ext hdom)
            simp (maxSteps := 1000000) (disch := first | assumption | omega | rfl | decide | simp only [fitsR, Bool.and_self]) [↓rules, rules, ↓rulesDp, rulesDq, lit_u64, Int.ofNat_inj, stops, rc_reeveref7_Belowl0, q_int, q_bool, q_S_int, c0, h3, a1, e5]
            refine ⟨_, hdec, u[p], rfl, hnext, kk, _, Or.inr ⟨?_, hanc', hnew⟩, rfl, rfl⟩
            rw [hnil]
            exact Or.inr ⟨n3 + 1, by have := hk3.le; omega, rfl, by simp [gset]⟩
          · have hbm := hk3.dom bV (by rw [hgV]; simp)
            have hbn1 : bV ≠ n3 := by omega
            have hsz : (cs.length + 1) * 8 ≤ 70368744177664 := by omega
            have hsz2 : cs.length ≤ 70368744177663 := by omega
            have kk := ((hk3.new (.row [.int .i64 k] true)).drop hbV).new (.row (cI cs ++ [.int .i64 k]) true)
            have e5 := e4 _ (kk.ext hdom)
            simp (maxSteps := 1000000) (disch := first | assumption | omega | rfl | decide | simp only [fitsR, Bool.and_self]) [↓rules, rules, ↓rulesDp, rulesDq, lit_u64, Int.ofNat_inj, stops, rc_reeveref7_Belowl0, q_int, q_bool, q_S_int, c0, h3, a1, e5, hgV, hbn1, hsz, hsz2]
            refine ⟨hbV, _, hdec, u[p], rfl, hnext, kk, _, Or.inr ⟨?_, hanc', hnew⟩, rfl, rfl⟩
            exact Or.inr ⟨n3 + 1, by have := hk3.le; omega, by simp, by simp [gset, cI]⟩
        · exact absurd rfl (m3 hia).1
      · have e5 := e4 g3 (hk3.ext hdom)
        simp (maxSteps := 1000000) (disch := first | assumption | omega | rfl | decide | simp only [fitsR, Bool.and_self]) [↓rules, rules, ↓rulesDp, rulesDq, lit_u64, Int.ofNat_inj, stops, rc_reeveref7_Belowl0, q_int, q_bool, q_S_int, c0, c, h3, a1, e5]
        refine ⟨_, hdec, u[p], rfl, hnext, hk3, _, ?_, rfl, rfl⟩
        have hstep : (isF u (p : Int) = true ∧ ((p : Int) = i ∨ i ∈ ancs u (p : Int))) ↔ (isF u u[p] = true ∧ (u[p] = i ∨ i ∈ ancs u u[p])) := by
          cases e : isF u u[p]
          · have := hancn e
            rw [this]
            simp [c]
          · rw [hanc e]
            simp [c, hia, eq_comm]
        rcases hmid with ⟨m1, m2⟩ | ⟨m1, m2, m3⟩
        · exact Or.inl ⟨m1, m2.trans hstep⟩
        · refine Or.inr ⟨m1, m2, fun h => ?_⟩
          have h5 := (m3 hia).2
          rw [hanc h] at h5
          exact ⟨fun e => h5 (by rw [e]; exact List.mem_cons_self), fun e => h5 (List.mem_cons_of_mem _ e)⟩
    · refine ⟨u[k], V, rfl, ?_, hkp, Or.inl ⟨hV, ?_⟩, by rfl⟩
      · by_cases hn : u[k] < 0
        · exact Or.inl hn
        · right
          have hk4 : isF u (k : Int) = true := isF_iff.2 ⟨by omega, by omega, by rw [upAt_nat hlt1]; omega⟩
          have := (hr.step _ hk4 (by rw [upAt_nat hlt1]; omega)).1
          rwa [upAt_nat hlt1] at this
      · by_cases hn : u[k] < 0
        · have h0 : isF u u[k] = false := by simp [isF]; omega
          constructor
          · rintro ⟨h1, h2⟩
            by_cases hn2 : u[k] = -1
            · rw [hr.ancs_root h1 (by rw [upAt_nat hlt1]; exact hn2)] at h2; cases h2
            · have := (hr.step _ h1 (by rw [upAt_nat hlt1]; exact hn2)).1
              rw [upAt_nat hlt1, h0] at this; cases this
          · rintro ⟨h1, _⟩; rw [h0] at h1; cases h1
        · have hk4 : isF u (k : Int) = true := isF_iff.2 ⟨by omega, by omega, by rw [upAt_nat hlt1]; omega⟩
          have hn1 : upAt u (k : Int) ≠ -1 := by rw [upAt_nat hlt1]; omega
          obtain ⟨s1, _⟩ := hr.step _ hk4 hn1
          rw [hr.ancs_step hk4 hn1]
          rw [upAt_nat hlt1] at s1 ⊢
          simp [hk4, s1, eq_comm]
  · exact ⟨0, .slice none 0 0, by simp, by simp, by simp, Kept.refl hdom, Or.inl ⟨rfl, rfl⟩, by rfl⟩
end Go.Proofs.Ytfcbhgiccgommaa.F10

namespace Go.Proofs.Ytfcbhgiccgommaa.F10
open Go Go.Proofs Go.Proofs.YtfcbhgiccgommaaAbs
variable [Base]
set_option maxHeartbeats 8000000
set_option maxRecDepth 100000
theorem isF_at {u : List Int} {q : Nat} (h : q < u.length) : isF u (q : Int) = !decide (u[q] = -2) := by simp [isF, upAt_nat h, h]
theorem ref_Add (va : Value) (u : List Int) (i k : Int) (g : AMem) (n : Nat) (hdom : ∀ i, g i ≠ none → i < n) (hl : u.length ≤ 100000) (ha : rdI g va u) :
    FnS Try.prog f_reeveref7_Add [va, .int .i64 i, .int .i64 k] g n (fun _ => False) fun v g' n' => ∃ V, v = .tuple #[V, .bool (addOk u i k)] ∧ Gi n g' V (if addOk u i k = true then addF u i k else []) ∧ Kept g n g' n' := by
  refine fnS_of_rwp t_reeveref7_Add hm rfl hdom ?_
  have k0 := Kept.refl hdom
  obtain ⟨a, ea, hva⟩ := ha.form
  simp (maxSteps := 1000000) (disch := first | assumption | omega | rfl | decide | simp only [fitsR, Bool.and_self]) [↓rules, rules, ↓rulesDp, rulesDq, lit_u64, Int.ofNat_inj, stops, rc_reeveref7_Add, q_int, q_bool, q_S_int]
  refine rcall_quiet rfl (ref_Good va u _ _ hl ha) ?_
  cases cg : goodF u
  · rw [show addOk u i k = false by simp [addOk, cg]]
    simp (maxSteps := 1000000) (disch := first | assumption | omega | rfl | decide | simp only [fitsR, Bool.and_self]) [↓rules, rules, ↓rulesDp, rulesDq, lit_u64, Int.ofNat_inj, stops, q_int, q_bool, q_S_int]
    exact sdone_ret (v := .tuple #[.slice none 0 0, .bool false]) rfl ⟨_, rfl, Or.inl ⟨rfl, rfl⟩, k0⟩
  by_cases c1 : i < 0
  · rw [show addOk u i k = false by simp [addOk]; intro _ h; omega]
    simp (maxSteps := 1000000) (disch := first | assumption | omega | rfl | decide | simp only [fitsR, Bool.and_self]) [↓rules, rules, ↓rulesDp, rulesDq, lit_u64, Int.ofNat_inj, stops, q_int, q_bool, q_S_int, c1]
    exact sdone_ret (v := .tuple #[.slice none 0 0, .bool false]) rfl ⟨_, rfl, Or.inl ⟨rfl, rfl⟩, k0⟩
  by_cases c2 : (u.length : Int) ≤ i
  · rw [show addOk u i k = false by simp [addOk]; intro _ _ h; omega]
    simp (maxSteps := 1000000) (disch := first | assumption | omega | rfl | decide | simp only [fitsR, Bool.and_self]) [↓rules, rules, ↓rulesDp, rulesDq, lit_u64, Int.ofNat_inj, stops, q_int, q_bool, q_S_int, c1, c2, hva]
    exact sdone_ret (v := .tuple #[.slice none 0 0, .bool false]) rfl ⟨_, rfl, Or.inl ⟨rfl, rfl⟩, k0⟩
  obtain ⟨q, rfl⟩ : ∃ q : Nat, i = q := ⟨i.toNat, by omega⟩
  have hq : q < u.length := by omega
  have c2' : (q : Int) < u.length := by omega
  obtain ⟨b1, o1, h1, _, h2⟩ := ha.one hq
  have e1 := h2 _ (Ext.refl _) Try.prog _ ta_int
  have k1 := k0.new (.row [] true)
  have hread := readI (ha.ext (k1.ext hdom))
  rw [h1] at hread
  have hck := cellsI_ok u
  have h0 : u.length ≠ 0 := by omega
  have hsz : u.length * 8 ≤ 70368744177664 := by omega
  have hsz2 : u.length ≤ 70368744177664 := by omega
  have c5 : q + 1 ≤ u.length := hq
  have hlc : (cI u).length = u.length := by simp [cI]
  have hsp := spliceI u q k hq
  by_cases c3 : u[q] = -2
  case neg =>
    rw [show addOk u q k = false by simp [addOk, isF_at hq, c3]]
    simp (maxSteps := 1000000) (disch := first | assumption | omega | rfl | decide | simp only [fitsR, Bool.and_self]) [↓rules, rules, ↓rulesDp, rulesDq, lit_u64, Int.ofNat_inj, stops, q_int, q_bool, q_S_int, c1, c2, c2', h1, e1, c3]
    exact sdone_ret (v := .tuple #[.slice none 0 0, .bool false]) rfl ⟨_, rfl, Or.inl ⟨rfl, rfl⟩, k0⟩
  by_cases c4 : k = -1
  · rw [show addOk u q k = true by simp [addOk, cg, isF_at hq, c3, c4]; omega]
    subst c4
    simp (maxSteps := 1000000) (disch := first | assumption | omega | rfl | decide | simp only [fitsR, Bool.and_self]) [↓rules, rules, ↓rulesDp, rulesDq, lit_u64, Int.ofNat_inj, stops, q_int, q_bool, q_S_int, c1, c2, c2', h1, e1, c3, hread, hck, h0, hsz, hsz2, c5, hlc, hsp]
    refine sdone_ret (v := .tuple #[.slice (some ⟨n + 1, 0, none⟩) u.length 1, .bool true]) rfl ⟨_, rfl, Or.inr ⟨n + 1, by omega, by simp, by simp [gset, addF]⟩, (by repeat first | exact Kept.refl hdom | refine Kept.new ?_ _ | refine Kept.drop ?_ (by omega) | refine Kept.put ?_ (by omega) (by omega) _ | refine Kept.skip ?_)⟩
  · simp (maxSteps := 1000000) (disch := first | assumption | omega | rfl | decide | simp only [fitsR, Bool.and_self]) [↓rules, rules, ↓rulesDp, rulesDq, lit_u64, Int.ofNat_inj, stops, q_int, q_bool, q_S_int, c1, c2, c2', h1, e1, c3, c4]
    rw [← h1]
    refine rcall_quiet rfl (ref_There va u k _ _ hl ha) ?_
    have hmk : mayF u k = isF u k := by unfold mayF; rw [cg, Bool.true_and]
    rw [hmk]
    cases c6 : isF u k
    · rw [show addOk u q k = false by simp [addOk, c4, c6]]
      simp (maxSteps := 1000000) (disch := first | assumption | omega | rfl | decide | simp only [fitsR, Bool.and_self]) [↓rules, rules, ↓rulesDp, rulesDq, lit_u64, Int.ofNat_inj, stops, q_int, q_bool, q_S_int]
      exact sdone_ret (v := .tuple #[.slice none 0 0, .bool false]) rfl ⟨_, rfl, Or.inl ⟨rfl, rfl⟩, k0⟩
    · rw [show addOk u q k = true by simp [addOk, cg, isF_at hq, c3, c6]; omega]
      simp (maxSteps := 1000000) (disch := first | assumption | omega | rfl | decide | simp only [fitsR, Bool.and_self]) [↓rules, rules, ↓rulesDp, rulesDq, lit_u64, Int.ofNat_inj, stops, q_int, q_bool, q_S_int, c2', h1, hread, hck, h0, hsz, hsz2, c5, hlc, hsp]
      refine sdone_ret (v := .tuple #[.slice (some ⟨n + 1, 0, none⟩) u.length 1, .bool true]) rfl ⟨_, rfl, Or.inr ⟨n + 1, by omega, by simp, by simp [gset, addF]⟩, (by repeat first | exact Kept.refl hdom | refine Kept.new ?_ _ | refine Kept.drop ?_ (by omega) | refine Kept.put ?_ (by omega) (by omega) _ | refine Kept.skip ?_)⟩
theorem setK_succ (u : List Int) (i v : Int) (k : Nat) (hk : k < u.length) : setL u (kidsU u i (k + 1)) v = if upAt u (k : Int) = i then (setL u (kidsU u i k) v).set k v else setL u (kidsU u i k) v := by
  rw [kidsU_succ]
  by_cases c : upAt u (k : Nat) = i
  · rw [if_pos c, if_pos c]
    unfold setL
    rw [List.foldl_append]; rfl
  · rw [if_neg c, if_neg c, List.append_nil]
theorem setK_at (u : List Int) (i v : Int) (k : Nat) (hk : k < u.length) : upAt (setL u (kidsU u i k) v) (k : Int) = u[k] := by
  rw [upAt_setL v (by omega) _ _ (fun j hj => ?_), if_neg, upAt_nat hk]
  · intro hc
    simp only [kidsU, List.mem_map, List.mem_filter, List.mem_range] at hc
    obtain ⟨a, ⟨h1, _⟩, h2⟩ := hc
    have : (a : Int) = k := h2
    omega
  · simp only [kidsU, List.mem_map, List.mem_filter, List.mem_range] at hj
    obtain ⟨a, ⟨h1, _⟩, rfl⟩ := hj
    exact ⟨Int.natCast_nonneg _, by show (a : Int) < u.length; omega⟩
theorem ref_Drop (va : Value) (u : List Int) (i : Int) (g : AMem) (n : Nat) (hdom : ∀ i, g i ≠ none → i < n) (hl : u.length ≤ 100000) (ha : rdI g va u) :
    FnS Try.prog f_reeveref7_Drop [va, .int .i64 i] g n (fun _ => False) fun v g' n' => ∃ V, v = .tuple #[V, .bool (mayF u i)] ∧ Gi n g' V (if mayF u i = true then dropF u i else []) ∧ Kept g n g' n' := by
  refine fnS_of_rwp t_reeveref7_Drop hm rfl hdom ?_
  have k0 := Kept.refl hdom
  simp (maxSteps := 1000000) (disch := first | assumption | omega | rfl | decide | simp only [fitsR, Bool.and_self]) [↓rules, rules, ↓rulesDp, rulesDq, lit_u64, Int.ofNat_inj, stops, rc_reeveref7_Drop, q_int, q_bool, q_S_int]
  refine rcall_quiet rfl (ref_There va u i _ _ hl ha) ?_
  cases cm : mayF u i
  · simp (maxSteps := 1000000) (disch := first | assumption | omega | rfl | decide | simp only [fitsR, Bool.and_self]) [↓rules, rules, ↓rulesDp, rulesDq, lit_u64, Int.ofNat_inj, stops, q_int, q_bool, q_S_int]
    exact sdone_ret (v := .tuple #[.slice none 0 0, .bool false]) rfl ⟨_, rfl, Or.inl ⟨rfl, rfl⟩, k0⟩
  obtain ⟨cg, ci⟩ := mayF_iff.1 cm
  obtain ⟨i0, i1, i2⟩ := isF_iff.1 ci
  obtain ⟨q, rfl⟩ : ∃ q : Nat, i = q := ⟨i.toNat, by omega⟩
  have hq : q < u.length := by omega
  obtain ⟨b1, o1, h1, _, h2⟩ := ha.one hq
  have k1 := k0.new (.row [] true)
  have hread := readI (ha.ext (k1.ext hdom))
  rw [h1] at hread
  have hck := cellsI_ok u
  have h0 : u.length ≠ 0 := by omega
  have hsz : u.length * 8 ≤ 70368744177664 := by omega
  have hsz2 : u.length ≤ 70368744177664 := by omega
  simp (maxSteps := 1000000) (disch := first | assumption | omega | rfl | decide | simp only [fitsR, Bool.and_self]) [↓rules, rules, ↓rulesDp, rulesDq, lit_u64, Int.ofNat_inj, stops, q_int, q_bool, q_S_int, h1, hread, hck, h0, hsz, hsz2]
  rw [← h1]
  have k2 : Kept g n (gset (gset g n none) (n + 1) (some (.row (cI u) true))) (n + 1 + 1) := (by repeat first | exact Kept.refl hdom | refine Kept.new ?_ _ | refine Kept.drop ?_ (by omega) | refine Kept.put ?_ (by omega) (by omega) _ | refine Kept.skip ?_)
  have hHV : gset (gset g n none) (n + 1) (some (.row (cI u) true)) (n + 1) = some (.row (cI u) true) := by simp [gset]
  generalize hH : gset (gset g n none) (n + 1) (some (.row (cI u) true)) = H at *
  have hput : ∀ o, Kept g n (gset H (n + 1) (some o)) (n + 1 + 1) := fun o => k2.put (by omega) (by omega) o
  refine rwp_loop (fun j l g' n' => ∃ k, j = u.length - k ∧ k ≤ u.length ∧ g' = gset H (n + 1) (some (.row (cI (setL u (kidsU u q k) (upAt u q))) true)) ∧ n' = n + 1 + 1 ∧ l = [(0, va), (1, .int .i64 q), (6, .slice (some ⟨n + 1, 0, none⟩) u.length 1), (7, .int .i64 k)]) ?_ (k := u.length) ?_
  · rintro j l g' n' ⟨k, rfl, hk, rfl, rfl, rfl⟩
    have hgl := setL_len (upAt u q) (kidsU u q k) u
    by_cases hlt : (k : Int) < (u.length : Int)
    case neg =>
      have : k = u.length := by omega
      subst this
      have hdr : dropF u q = (setL u (kidsU u q u.length) (upAt u q)).set q (-2) := by unfold dropF; rfl
      have c2 : q + 1 ≤ u.length := hq
      have hsp := spliceI (setL u (kidsU u q u.length) (upAt u q)) q (-2) (by omega)
      rw [← hdr] at hsp
      simp (maxSteps := 1000000) (disch := first | assumption | omega | rfl | decide | simp only [fitsR, Bool.and_self]) [↓rules, rules, ↓rulesDp, rulesDq, lit_u64, Int.ofNat_inj, stops, rc_reeveref7_Dropl0, q_int, q_bool, q_S_int, hlt, i1, c2, hgl, hsp]
      exact sdone_ret (v := .tuple #[.slice (some ⟨n + 1, 0, none⟩) u.length 1, .bool true]) rfl ⟨_, rfl, Or.inr ⟨n + 1, by omega, by simp, by simp [gset]⟩, hput _⟩
    have hlt1 : k < u.length := by omega
    have hat := setK_at u q (upAt u q) k hlt1
    have hsc := setK_succ u q (upAt u q) k hlt1
    rw [upAt_nat hlt1] at hsc
    have e3 := h2 _ ((hput (.row (cI (setL u (kidsU u q k) (upAt u q))) true)).ext hdom) Try.prog _ ta_int
    have w1 : IntKind.i64.wrap ((k : Int) + 1) = ((k + 1 : Nat) : Int) := by rw [wrap_i64 (by omega) (by omega)]; omega
    generalize hS : setL u (kidsU u q k) (upAt u q) = S at *
    rw [upAt_nat (by omega)] at hat
    have hnth : nth (cI S) k = some (.int .i64 u[k]) := by
      rw [← nth_eq, cI, List.getElem?_map, List.getElem?_eq_getElem (by omega), hat]; rfl
    have c4 : k + 1 ≤ u.length := hlt1
    have hsp := spliceI S k (upAt u q) (by omega)
    by_cases c : u[k] = (q : Int)
    · rw [if_pos c] at hsc
      rw [← upAt_nat hq] at e3
      simp (maxSteps := 1000000) (disch := first | assumption | omega | rfl | decide | simp only [fitsR, Bool.and_self]) [↓rules, rules, ↓rulesDp, rulesDq, lit_u64, Int.ofNat_inj, stops, rc_reeveref7_Dropl0, q_int, q_bool, q_S_int, hlt, hnth, c, h1, i1, e3, c4, hgl, w1, hsp]
      refine ⟨u.length - (k + 1), by omega, k + 1, rfl, by omega, by rw [hsc]; simp [cI, List.map_set], by omega⟩
    · rw [if_neg c] at hsc
      simp (maxSteps := 1000000) (disch := first | assumption | omega | rfl | decide | simp only [fitsR, Bool.and_self]) [↓rules, rules, ↓rulesDp, rulesDq, lit_u64, Int.ofNat_inj, stops, rc_reeveref7_Dropl0, q_int, q_bool, q_S_int, hlt, hnth, c, w1]
      refine ⟨u.length - (k + 1), by omega, k + 1, rfl, by omega, by rw [hsc], by omega⟩
  · exact ⟨0, by simp, by simp, by exact (gset_eta hHV).symm, rfl, by rfl⟩
theorem ref_Move (va : Value) (u : List Int) (i z : Int) (g : AMem) (n : Nat) (hdom : ∀ i, g i ≠ none → i < n) (hl : u.length ≤ 100000) (ha : rdI g va u) :
    FnS Try.prog f_reeveref7_Move [va, .int .i64 i, .int .i64 z] g n (fun _ => False) fun v g' n' => ∃ V, v = .tuple #[V, .bool (moveOk u i z)] ∧ Gi n g' V (if moveOk u i z = true then moveF u i z else []) ∧ Kept g n g' n' := by
  refine fnS_of_rwp t_reeveref7_Move hm rfl hdom ?_
  have k0 := Kept.refl hdom
  simp (maxSteps := 1000000) (disch := first | assumption | omega | rfl | decide | simp only [fitsR, Bool.and_self]) [↓rules, rules, ↓rulesDp, rulesDq, lit_u64, Int.ofNat_inj, stops, rc_reeveref7_Move, q_int, q_bool, q_S_int]
  refine rcall_quiet rfl (ref_There va u i _ _ hl ha) ?_
  cases cm : mayF u i
  · rw [show moveOk u i z = false by simp [moveOk, cm]]
    simp (maxSteps := 1000000) (disch := first | assumption | omega | rfl | decide | simp only [fitsR, Bool.and_self]) [↓rules, rules, ↓rulesDp, rulesDq, lit_u64, Int.ofNat_inj, stops, q_int, q_bool, q_S_int]
    exact sdone_ret (v := .tuple #[.slice none 0 0, .bool false]) rfl ⟨_, rfl, Or.inl ⟨rfl, rfl⟩, k0⟩
  obtain ⟨cg, ci⟩ := mayF_iff.1 cm
  obtain ⟨i0, i1, i2⟩ := isF_iff.1 ci
  obtain ⟨q, rfl⟩ : ∃ q : Nat, i = q := ⟨i.toNat, by omega⟩
  have hq : q < u.length := by omega
  obtain ⟨b1, o1, h1, _, h2⟩ := ha.one hq
  have k1 := k0.new (.row [] true)
  have hread := readI (ha.ext (k1.ext hdom))
  rw [h1] at hread
  have hck := cellsI_ok u
  have h0 : u.length ≠ 0 := by omega
  have hsz : u.length * 8 ≤ 70368744177664 := by omega
  have hsz2 : u.length ≤ 70368744177664 := by omega
  by_cases d1 : z < 0
  · rw [show moveOk u q z = false by simp [moveOk]; intro _ h; omega]
    simp (maxSteps := 1000000) (disch := first | assumption | omega | rfl | decide | simp only [fitsR, Bool.and_self]) [↓rules, rules, ↓rulesDp, rulesDq, lit_u64, Int.ofNat_inj, stops, q_int, q_bool, q_S_int, d1]
    exact sdone_ret (v := .tuple #[.slice none 0 0, .bool false]) rfl ⟨_, rfl, Or.inl ⟨rfl, rfl⟩, k0⟩
  by_cases d2 : (u.length : Int) ≤ z
  · rw [show moveOk u q z = false by simp [moveOk]; intro _ _ h; omega]
    simp (maxSteps := 1000000) (disch := first | assumption | omega | rfl | decide | simp only [fitsR, Bool.and_self]) [↓rules, rules, ↓rulesDp, rulesDq, lit_u64, Int.ofNat_inj, stops, q_int, q_bool, q_S_int, d1, d2, h1]
    exact sdone_ret (v := .tuple #[.slice none 0 0, .bool false]) rfl ⟨_, rfl, Or.inl ⟨rfl, rfl⟩, k0⟩
  obtain ⟨y, rfl⟩ : ∃ y : Nat, z = y := ⟨z.toNat, by omega⟩
  have hy : y < u.length := by omega
  have hy' : (y : Int) < u.length := by omega
  obtain ⟨b9, o9, h9, _, h10⟩ := ha.one hy
  have e9 := h10 _ (Ext.refl _) Try.prog _ ta_int
  rw [h1] at h9
  simp only [Value.slice.injEq, Option.some.injEq, Addr.mk.injEq] at h9
  obtain ⟨⟨rfl, rfl, _⟩, _⟩ := h9
  by_cases d3 : u[y] = -2
  case neg =>
    rw [show moveOk u q y = false by simp [moveOk, isF_at hy, d3]]
    simp (maxSteps := 1000000) (disch := first | assumption | omega | rfl | decide | simp only [fitsR, Bool.and_self]) [↓rules, rules, ↓rulesDp, rulesDq, lit_u64, Int.ofNat_inj, stops, q_int, q_bool, q_S_int, d1, d2, h1, hy', e9, d3]
    exact sdone_ret (v := .tuple #[.slice none 0 0, .bool false]) rfl ⟨_, rfl, Or.inl ⟨rfl, rfl⟩, k0⟩
  rw [show moveOk u q y = true by simp [moveOk, cm, isF_at hy, d3]; omega]
  simp (maxSteps := 1000000) (disch := first | assumption | omega | rfl | decide | simp only [fitsR, Bool.and_self]) [↓rules, rules, ↓rulesDp, rulesDq, lit_u64, Int.ofNat_inj, stops, q_int, q_bool, q_S_int, h1, hread, hck, h0, hsz, hsz2, d1, d2, hy', e9, d3]
  rw [← h1]
  have k2 : Kept g n (gset (gset g n none) (n + 1) (some (.row (cI u) true))) (n + 1 + 1) := (by repeat first | exact Kept.refl hdom | refine Kept.new ?_ _ | refine Kept.drop ?_ (by omega) | refine Kept.put ?_ (by omega) (by omega) _ | refine Kept.skip ?_)
  have hHV : gset (gset g n none) (n + 1) (some (.row (cI u) true)) (n + 1) = some (.row (cI u) true) := by simp [gset]
  generalize hH : gset (gset g n none) (n + 1) (some (.row (cI u) true)) = H at *
  have hput : ∀ o, Kept g n (gset H (n + 1) (some o)) (n + 1 + 1) := fun o => k2.put (by omega) (by omega) o
  refine rwp_loop (fun j l g' n' => ∃ k, j = u.length - k ∧ k ≤ u.length ∧ g' = gset H (n + 1) (some (.row (cI (setL u (kidsU u q k) y)) true)) ∧ n' = n + 1 + 1 ∧ l = [(0, va), (1, .int .i64 q), (2, .int .i64 y), (8, .slice (some ⟨n + 1, 0, none⟩) u.length 1), (9, .int .i64 k)]) ?_ (k := u.length) ?_
  · rintro j l g' n' ⟨k, rfl, hk, rfl, rfl, rfl⟩
    have hgl := setL_len y (kidsU u q k) u
    by_cases hlt : (k : Int) < (u.length : Int)
    case neg =>
      have : k = u.length := by omega
      subst this
      have hmv : moveF u q y = ((setL u (kidsU u q u.length) y).set y (upAt u q)).set q (-2) := by unfold moveF; rfl
      have c2 : q + 1 ≤ u.length := hq
      have c3 : y + 1 ≤ u.length := hy
      have e3 := h2 _ ((hput (.row (cI (setL u (kidsU u q u.length) y)) true)).ext hdom) Try.prog _ ta_int
      rw [← upAt_nat hq] at e3
      have hsp := spliceI (setL u (kidsU u q u.length) y) y (upAt u q) (by omega)
      have hgl2 : ((setL u (kidsU u q u.length) y).set y (upAt u q)).length = u.length := by rw [List.length_set, hgl]
      have hsp2 := spliceI ((setL u (kidsU u q u.length) y).set y (upAt u q)) q (-2) (by omega)
      rw [← hmv] at hsp2
      generalize hS2 : (setL u (kidsU u q u.length) y).set y (upAt u q) = S2 at *
      generalize hS : setL u (kidsU u q u.length) y = S at *
      simp (maxSteps := 1000000) (disch := first | assumption | omega | rfl | decide | simp only [fitsR, Bool.and_self]) [↓rules, rules, ↓rulesDp, rulesDq, lit_u64, Int.ofNat_inj, stops, rc_reeveref7_Movel0, q_int, q_bool, q_S_int, hlt, i1, hy', c2, c3, hgl, hgl2, hsp, hsp2, h1, e3]
      exact sdone_ret (v := .tuple #[.slice (some ⟨n + 1, 0, none⟩) u.length 1, .bool true]) rfl ⟨_, rfl, Or.inr ⟨n + 1, by omega, by simp, by simp [gset]⟩, hput _⟩
    have hlt1 : k < u.length := by omega
    have hat := setK_at u q y k hlt1
    have hsc := setK_succ u q y k hlt1
    rw [upAt_nat hlt1] at hsc
    have w1 : IntKind.i64.wrap ((k : Int) + 1) = ((k + 1 : Nat) : Int) := by rw [wrap_i64 (by omega) (by omega)]; omega
    generalize hS : setL u (kidsU u q k) y = S at *
    rw [upAt_nat (by omega)] at hat
    have hnth : nth (cI S) k = some (.int .i64 u[k]) := by
      rw [← nth_eq, cI, List.getElem?_map, List.getElem?_eq_getElem (by omega), hat]; rfl
    have c4 : k + 1 ≤ u.length := hlt1
    have hsp := spliceI S k y (by omega)
    by_cases c : u[k] = (q : Int)
    · rw [if_pos c] at hsc
      simp (maxSteps := 1000000) (disch := first | assumption | omega | rfl | decide | simp only [fitsR, Bool.and_self]) [↓rules, rules, ↓rulesDp, rulesDq, lit_u64, Int.ofNat_inj, stops, rc_reeveref7_Movel0, q_int, q_bool, q_S_int, hlt, hnth, c, c4, hgl, w1, hsp]
      refine ⟨u.length - (k + 1), by omega, k + 1, rfl, by omega, by rw [hsc]; simp [cI, List.map_set], by omega⟩
    · rw [if_neg c] at hsc
      simp (maxSteps := 1000000) (disch := first | assumption | omega | rfl | decide | simp only [fitsR, Bool.and_self]) [↓rules, rules, ↓rulesDp, rulesDq, lit_u64, Int.ofNat_inj, stops, rc_reeveref7_Movel0, q_int, q_bool, q_S_int, hlt, hnth, c, w1]
      refine ⟨u.length - (k + 1), by omega, k + 1, rfl, by omega, by rw [hsc], by omega⟩
  · exact ⟨0, by simp, by simp, by exact (gset_eta hHV).symm, rfl, by rfl⟩
theorem ref_Prune (va : Value) (u : List Int) (i : Int) (g : AMem) (n : Nat) (hdom : ∀ i, g i ≠ none → i < n) (hl : u.length ≤ 100000) (ha : rdI g va u) :
    FnS Try.prog f_reeveref7_Prune [va, .int .i64 i] g n (fun _ => False) fun v g' n' => ∃ V, v = .tuple #[V, .bool (mayF u i)] ∧ Gi n g' V (if mayF u i = true then pruneF u i else []) ∧ Kept g n g' n' := by
  refine fnS_of_rwp t_reeveref7_Prune hm rfl hdom ?_
  have k0 := Kept.refl hdom
  simp (maxSteps := 1000000) (disch := first | assumption | omega | rfl | decide | simp only [fitsR, Bool.and_self]) [↓rules, rules, ↓rulesDp, rulesDq, lit_u64, Int.ofNat_inj, stops, rc_reeveref7_Prune, q_int, q_bool, q_S_int]
  refine rcall_quiet rfl (ref_There va u i _ _ hl ha) ?_
  cases cm : mayF u i
  · simp (maxSteps := 1000000) (disch := first | assumption | omega | rfl | decide | simp only [fitsR, Bool.and_self]) [↓rules, rules, ↓rulesDp, rulesDq, lit_u64, Int.ofNat_inj, stops, q_int, q_bool, q_S_int]
    exact sdone_ret (v := .tuple #[.slice none 0 0, .bool false]) rfl ⟨_, rfl, Or.inl ⟨rfl, rfl⟩, k0⟩
  obtain ⟨cg, ci⟩ := mayF_iff.1 cm
  obtain ⟨i0, i1, i2⟩ := isF_iff.1 ci
  obtain ⟨q, rfl⟩ : ∃ q : Nat, i = q := ⟨i.toNat, by omega⟩
  have hq : q < u.length := by omega
  obtain ⟨b1, o1, h1, _, h2⟩ := ha.one hq
  have k1 := k0.new (.row [] true)
  have hread := readI (ha.ext (k1.ext hdom))
  rw [h1] at hread
  have hck := cellsI_ok u
  have h0 : u.length ≠ 0 := by omega
  have hsz : u.length * 8 ≤ 70368744177664 := by omega
  have hsz2 : u.length ≤ 70368744177664 := by omega
  simp (maxSteps := 1000000) (disch := first | assumption | omega | rfl | decide | simp only [fitsR, Bool.and_self]) [↓rules, rules, ↓rulesDp, rulesDq, lit_u64, Int.ofNat_inj, stops, q_int, q_bool, q_S_int, h1, hread, hck, h0, hsz, hsz2]
  rw [← h1]
  have k2 : Kept g n (gset (gset g n none) (n + 1) (some (.row (cI u) true))) (n + 1 + 1) := (by repeat first | exact Kept.refl hdom | refine Kept.new ?_ _ | refine Kept.drop ?_ (by omega) | refine Kept.put ?_ (by omega) (by omega) _ | refine Kept.skip ?_)
  have hHV : gset (gset g n none) (n + 1) (some (.row (cI u) true)) (n + 1) = some (.row (cI u) true) := by simp [gset]
  generalize hH : gset (gset g n none) (n + 1) (some (.row (cI u) true)) = H at *
  refine rcall_spec (ref_Below va u q _ _ k2.dom hl (ha.ext (k2.ext hdom))) rfl (fun _ h => h.elim) rfl fun Vk g2 n2 ⟨r2, q2⟩ => ?_
  rw [show belS u (q : Int) = belF u q by unfold belS; rw [if_pos cm]] at r2
  have k3 := k2.trans q2
  have l2 := q2.le
  have hHV2 : g2 (n + 1) = some (.row (cI u) true) := by rw [q2.same _ (by omega)]; exact hHV
  have hput : ∀ o, Kept g n (gset g2 (n + 1) (some o)) n2 := fun o => k3.put (by omega) (by omega) o
  have hks := bel_in (u := u) (i := (q : Int))
  have hpr : pruneF u q = setL u (belF u q) (-2) := rfl
  have hkl := bel_len u (q : Int)
  generalize hkk : belF u (q : Int) = ks at *
  simp (maxSteps := 1000000) (disch := first | assumption | omega | rfl | decide | simp only [fitsR, Bool.and_self]) [↓rules, rules, ↓rulesDp, rulesDq, lit_u64, Int.ofNat_inj, stops, q_int, q_bool, q_S_int]
  refine rwp_loop (fun j l g' n' => ∃ k, j = ks.length - k ∧ k ≤ ks.length ∧ g' = gset g2 (n + 1) (some (.row (cI (setL u (ks.take k) (-2))) true)) ∧ n' = n2 ∧ l = [(6, .slice (some ⟨n + 1, 0, none⟩) u.length 1), (7, Vk), (8, .int .i64 k)]) ?_ (k := ks.length) ?_
  · rintro j l g' n' ⟨k, rfl, hk, rfl, rfl, rfl⟩
    have hgl := setL_len (-2) (ks.take k) u
    have r3 := r2.put (x := n + 1) (n := 0) (o := some (.row (cI (setL u (ks.take k) (-2))) true)) (by omega) (by omega)
    obtain ⟨xa, xe, hVk⟩ := r3.rd.form
    by_cases hlt : (k : Int) < (ks.length : Int)
    case neg =>
      have : k = ks.length := by omega
      subst this
      rw [List.take_length] at hgl ⊢
      simp (maxSteps := 1000000) (disch := first | assumption | omega | rfl | decide | simp only [fitsR, Bool.and_self]) [↓rules, rules, ↓rulesDp, rulesDq, lit_u64, Int.ofNat_inj, stops, rc_reeveref7_Prunel0, q_int, q_bool, q_S_int, hlt, hVk]
      exact sdone_ret (v := .tuple #[.slice (some ⟨n + 1, 0, none⟩) u.length 1, .bool true]) rfl ⟨_, rfl, Or.inr ⟨n + 1, by omega, by simp, by simp [gset, hpr]⟩, hput _⟩
    have hlt1 : k < ks.length := by omega
    obtain ⟨b3, o3, h3, _, h4⟩ := r3.rd.one hlt1
    have e2 := h4 _ (Ext.refl _) Try.prog _ ta_int
    obtain ⟨y0, y1⟩ := hks _ (List.getElem_mem hlt1)
    obtain ⟨p, hp⟩ : ∃ p : Nat, ks[k] = p := ⟨ks[k].toNat, by omega⟩
    have hst := setL_take u ks (-2) k hlt1
    rw [hp] at e2 y1 hst
    have w1 : IntKind.i64.wrap ((k : Int) + 1) = ((k + 1 : Nat) : Int) := by rw [wrap_i64 (by omega) (by omega)]; omega
    generalize hS : setL u (ks.take k) (-2) = S at *
    have c3 : p + 1 ≤ u.length := by omega
    have hsp := spliceI S p (-2) (by omega)
    simp (maxSteps := 1000000) (disch := first | assumption | omega | rfl | decide | simp only [fitsR, Bool.and_self]) [↓rules, rules, ↓rulesDp, rulesDq, lit_u64, Int.ofNat_inj, stops, rc_reeveref7_Prunel0, q_int, q_bool, q_S_int, hlt, h3, e2, y1, c3, hgl, w1, hsp]
    refine ⟨ks.length - (k + 1), by omega, k + 1, rfl, by omega, by rw [hst]; simp [cI, List.map_set], by omega⟩
  · exact ⟨0, by simp, by simp, by rw [List.take_zero]; exact (gset_eta hHV2).symm, rfl, by rfl⟩
end Go.Proofs.Ytfcbhgiccgommaa.F10

namespace Go.Proofs.Ytfcbhgiccgommaa.F10
open Go Go.Proofs Go.Proofs.YtfcbhgiccgommaaAbs
variable [Base]
set_option maxHeartbeats 8000000
set_option maxRecDepth 100000
/-! ### The reference's order -/
theorem beh_snoc (u : List Int) (f : Nat) (l : List Int) (x : Int) : behF u (f + 1) (l ++ [x]) = behF u (f + 1) l ++ (x :: behF u f (kidsF u x)) := by
  simp only [behF, List.flatMap_append, List.flatMap_cons, List.flatMap_nil, List.append_nil]
theorem beh_pre (u : List Int) (f : Nat) (i : Int) (k : Nat) (hk : k ≤ u.length) : (behF u f (kidsU u i k)).length ≤ (behF u f (kidsF u i)).length := by
  cases f with
  | zero => exact Nat.le_refl _
  | succ f =>
    have hp : ∃ r, kidsF u i = kidsU u i k ++ r := by
      obtain ⟨d, hd⟩ : ∃ d, u.length = k + d := ⟨u.length - k, by omega⟩
      show ∃ r, kidsU u i u.length = kidsU u i k ++ r
      rw [hd]
      clear hd hk
      induction d with
      | zero => exact ⟨[], by simp⟩
      | succ d ih =>
        obtain ⟨r, hr⟩ := ih
        exact ⟨r ++ (if upAt u ((k + d : Nat) : Int) = i then [((k + d : Nat) : Int)] else []), by rw [← Nat.add_assoc, kidsU_succ, hr, List.append_assoc]⟩
    obtain ⟨r, hr⟩ := hp
    rw [hr]
    simp only [behF, List.flatMap_append, List.length_append]
    omega
/-- What the base has stays. -/
theorem rd_base {g0 g : AMem} {m n : Nat} {va : Value} {u : List Int} (hdom0 : ∀ i, g0 i ≠ none → i < m) (ha0 : rdI g0 va u) (kp : Kept g0 m g n) : rdI g va u := ha0.ext (kp.ext hdom0)
theorem ref_down : ∀ (f : Nat) (va V : Value) (u xs : List Int) (i : Int) (g0 g : AMem) (m n : Nat) (hdom0 : ∀ i, g0 i ≠ none → i < m) (ha0 : rdI g0 va u) (kp : Kept g0 m g n) (hl : u.length ≤ 1000) (hg : goodF u = true) (hi : isF u i = true) (hf : u.length ≤ dpt u i + 1 + f)
    (hV : Gi m g V xs) (hN : xs.length + 1 + (behF u f (kidsF u i)).length ≤ 100000),
    FnS Try.prog f_reeveref7_down [va, .int .i64 i, V] g n (fun j => m ≤ j) fun v g' n' => Gi m g' v (xs ++ (i :: behF u f (kidsF u i))) ∧ Kept g0 m g' n'
  | f, va, V, u, xs, i, g0, g, m, n, hdom0, ha0, kp, hl, hg, hi, hf, hV, hN => by
    refine fnS_of_rwp t_reeveref7_down hm rfl kp.dom ?_
    have hr := good_rk hg
    obtain ⟨a, ea, hva⟩ := ha0.form
    have hin2 : i ≠ -2 := fun e => by rw [e, ne_two] at hi; cases hi
    have hin1 : i ≠ -1 := fun e => by rw [e, ne_root] at hi; cases hi
    have lm := kp.le
    have rest : ∀ (g1 : AMem) (n1 : Nat) (V1 : Value), Gi m g1 V1 (xs ++ [i]) → Kept g0 m g1 n1 → rwp Try.prog (fun j => j < n → m ≤ j) (RCode.loop [0, 1, 2, 7] rc_reeveref7_downl0)
        (Exit.inBlockR 0 (Exit.thenR (rwp Try.prog (fun j => j < n → m ≤ j) (RCode.seq (.region [⟨some 28, .none, true, 22, .move (.tmp 2)⟩, ⟨some 6, .none, true, 22, .assign (.tmp 28)⟩]) .ret) (SDone Try.prog [.tmp 6] fun v g' n' => Gi m g' v (xs ++ (i :: behF u f (kidsF u i))) ∧ Kept g0 m g' n')) (SDone Try.prog [.tmp 6] fun v g' n' => Gi m g' v (xs ++ (i :: behF u f (kidsF u i))) ∧ Kept g0 m g' n')))
        [(0, va), (1, .int .i64 i), (2, V1), (7, .int .i64 0)] g1 n1 := fun g1 n1 V1 hV1 k1 => by
      refine rwp_loop (fun j l g2 n2 => ∃ k V2, j = u.length - k ∧ k ≤ u.length ∧ Kept g0 m g2 n2 ∧ Gi m g2 V2 (xs ++ (i :: behF u f (kidsU u i k))) ∧ l = [(0, va), (1, .int .i64 i), (2, V2), (7, .int .i64 k)]) ?_ (k := u.length) ?_
      · rintro j l g2 n2 ⟨k, V2, rfl, hk, k2, hV2, rfl⟩
        by_cases hlt : (k : Int) < (u.length : Int)
        case neg =>
          have : k = u.length := by omega
          subst this
          simp (maxSteps := 1000000) (disch := first | assumption | omega | rfl | decide | simp only [fitsR, Bool.and_self]) [↓rules, rules, ↓rulesDp, rulesDq, lit_u64, Int.ofNat_inj, stops, rc_reeveref7_downl0, q_int, q_bool, q_S_int, hva, hlt]
          exact sdone_ret rfl ⟨hV2, k2⟩
        have hlt1 : k < u.length := by omega
        have hag := rd_base hdom0 ha0 k2
        obtain ⟨b1, o1, h1, _, h2⟩ := hag.one hlt1
        have e2 := h2 _ (Ext.refl _) Try.prog _ ta_int
        have w1 : IntKind.i64.wrap ((k : Int) + 1) = ((k + 1 : Nat) : Int) := by rw [wrap_i64 (by omega) (by omega)]; omega
        have hs := kidsU_succ u i k
        rw [upAt_nat hlt1] at hs
        by_cases c : u[k] = i
        · rw [if_pos c] at hs
          have hkf : isF u (k : Int) = true := isF_iff.2 ⟨by omega, by omega, by rw [upAt_nat hlt1, c]; exact hin2⟩
          have hkd := (hr.step _ hkf (by rw [upAt_nat hlt1, c]; exact hin1)).2
          rw [upAt_nat hlt1, c] at hkd
          have hkl := hr.lt hkf
          cases f with
          | zero => omega
          | succ f =>
            have hb := beh_snoc u f (kidsU u i k) (k : Int)
            have hpre := beh_pre u (f + 1) i (k + 1) hlt1
            rw [hs, hb, List.length_append, List.length_cons] at hpre
            simp (maxSteps := 1000000) (disch := first | assumption | omega | rfl | decide | simp only [fitsR, Bool.and_self]) [↓rules, rules, ↓rulesDp, rulesDq, lit_u64, Int.ofNat_inj, stops, rc_reeveref7_downl0, q_int, q_bool, q_S_int, h1, hlt, e2, c]
            rw [← h1]
            refine rcall_spec (ref_down f va V2 u (xs ++ (i :: behF u (f + 1) (kidsU u i k))) (k : Int) g0 g2 m n2 hdom0 ha0 k2 hl hg hkf (by omega) hV2 (by simp only [List.length_append, List.length_cons]; omega)) rfl (fun j h _ => h) rfl fun V3 g3 n3 ⟨r3, k3⟩ => ?_
            simp (maxSteps := 1000000) (disch := first | assumption | omega | rfl | decide | simp only [fitsR, Bool.and_self]) [↓rules, rules, ↓rulesDp, rulesDq, lit_u64, Int.ofNat_inj, stops, q_int, q_bool, q_S_int, w1]
            refine ⟨u.length - (k + 1), by omega, k + 1, rfl, by omega, k3, V3, ?_, rfl, by omega⟩
            rw [hs, hb]
            simpa using r3
        · rw [if_neg c, List.append_nil] at hs
          simp (maxSteps := 1000000) (disch := first | assumption | omega | rfl | decide | simp only [fitsR, Bool.and_self]) [↓rules, rules, ↓rulesDp, rulesDq, lit_u64, Int.ofNat_inj, stops, rc_reeveref7_downl0, q_int, q_bool, q_S_int, h1, hlt, e2, c, w1]
          exact ⟨u.length - (k + 1), by omega, k + 1, rfl, by omega, k2, V2, by rw [hs]; exact hV2, rfl, by omega⟩
      · refine ⟨0, V1, by simp, by simp, k1, ?_, by rfl⟩
        have : behF u f (kidsU u i 0) = [] := by cases f <;> rfl
        rw [this]; exact hV1
    rcases hV with ⟨rfl, hnil⟩ | ⟨bV, hbV, rfl, hgV⟩
    · simp (maxSteps := 1000000) (disch := first | assumption | omega | rfl | decide | simp only [fitsR, Bool.and_self]) [↓rules, rules, ↓rulesDp, rulesDq, lit_u64, Int.ofNat_inj, stops, rc_reeveref7_down, q_int, q_bool, q_S_int]
      refine rest _ _ _ ?_ ((kp.new _).new _)
      rw [hnil]
      exact Or.inr ⟨n + 1, by omega, rfl, by simp [gset]⟩
    · have hbm := kp.dom bV (by rw [hgV]; simp)
      have hbn1 : bV ≠ n := by omega
      have hsz : (xs.length + 1) * 8 ≤ 70368744177664 := by omega
      have hsz2 : xs.length ≤ 70368744177663 := by omega
      simp (maxSteps := 1000000) (disch := first | assumption | omega | rfl | decide | simp only [fitsR, Bool.and_self]) [↓rules, rules, ↓rulesDp, rulesDq, lit_u64, Int.ofNat_inj, stops, rc_reeveref7_down, q_int, q_bool, q_S_int, hgV, hbn1, hsz, hsz2]
      refine ⟨fun _ => hbV, ?_⟩
      refine rest _ _ _ ?_ (((kp.new _).drop hbV).new _)
      exact Or.inr ⟨n + 1, by omega, by simp, by simp [gset, cI]⟩
theorem ref_Order (va : Value) (u : List Int) (g : AMem) (n : Nat) (hdom : ∀ i, g i ≠ none → i < n) (hl : u.length ≤ 1000) (ha : rdI g va u) :
    FnS Try.prog f_reeveref7_Order [va] g n (fun _ => False) fun v g' n' => Gi n g' v (ordS u) ∧ Kept g n g' n' := by
  refine fnS_of_rwp t_reeveref7_Order hm rfl hdom ?_
  have k0 := Kept.refl hdom
  obtain ⟨a, ea, hva⟩ := ha.form
  unfold ordS
  simp (maxSteps := 1000000) (disch := first | assumption | omega | rfl | decide | simp only [fitsR, Bool.and_self]) [↓rules, rules, ↓rulesDp, rulesDq, lit_u64, Int.ofNat_inj, stops, rc_reeveref7_Order, q_int, q_bool, q_S_int]
  refine rcall_quiet rfl (ref_Good va u _ _ (by omega) ha) ?_
  cases cg : goodF u
  · simp (maxSteps := 1000000) (disch := first | assumption | omega | rfl | decide | simp only [fitsR, Bool.and_self]) [↓rules, rules, ↓rulesDp, rulesDq, lit_u64, Int.ofNat_inj, stops, q_int, q_bool, q_S_int]
    exact sdone_ret rfl ⟨Or.inl ⟨rfl, rfl⟩, k0⟩
  have hr := good_rk cg
  have hol := ord_len cg
  unfold ordF at hol ⊢
  simp (maxSteps := 1000000) (disch := first | assumption | omega | rfl | decide | simp only [fitsR, Bool.and_self]) [↓rules, rules, ↓rulesDp, rulesDq, lit_u64, Int.ofNat_inj, stops, q_int, q_bool, q_S_int]
  refine rwp_loop (fun j l g' n' => ∃ k V, j = u.length - k ∧ k ≤ u.length ∧ Kept g n g' n' ∧ Gi n g' V (behF u u.length (kidsU u (-1) k)) ∧ l = [(0, va), (3, V), (4, .int .i64 k)]) ?_ (k := u.length) ?_
  · rintro j l g' n' ⟨k, V, rfl, hk, hkp, hV, rfl⟩
    by_cases hlt : (k : Int) < (u.length : Int)
    case neg =>
      have : k = u.length := by omega
      subst this
      simp (maxSteps := 1000000) (disch := first | assumption | omega | rfl | decide | simp only [fitsR, Bool.and_self]) [↓rules, rules, ↓rulesDp, rulesDq, lit_u64, Int.ofNat_inj, stops, rc_reeveref7_Orderl0, q_int, q_bool, q_S_int, hva, hlt]
      exact sdone_ret rfl ⟨hV, hkp⟩
    have hlt1 : k < u.length := by omega
    have hag := ha.ext (hkp.ext hdom)
    obtain ⟨b1, o1, h1, _, h2⟩ := hag.one hlt1
    have e2 := h2 _ (Ext.refl _) Try.prog _ ta_int
    have w1 : IntKind.i64.wrap ((k : Int) + 1) = ((k + 1 : Nat) : Int) := by rw [wrap_i64 (by omega) (by omega)]; omega
    have hs := kidsU_succ u (-1) k
    rw [upAt_nat hlt1] at hs
    by_cases c : u[k] = -1
    · rw [if_pos c] at hs
      have hkf : isF u (k : Int) = true := isF_iff.2 ⟨by omega, by omega, by rw [upAt_nat hlt1, c]; omega⟩
      obtain ⟨f, hfu⟩ : ∃ f, u.length = f + 1 := ⟨u.length - 1, by omega⟩
      have hb := beh_snoc u f (kidsU u (-1) k) (k : Int)
      have hpre := beh_pre u (f + 1) (-1) (k + 1) hlt1
      rw [hs, hb, List.length_append, List.length_cons] at hpre
      rw [hfu] at hol hV
      simp (maxSteps := 1000000) (disch := first | assumption | omega | rfl | decide | simp only [fitsR, Bool.and_self]) [↓rules, rules, ↓rulesDp, rulesDq, lit_u64, Int.ofNat_inj, stops, rc_reeveref7_Orderl0, q_int, q_bool, q_S_int, h1, hlt, e2, c]
      rw [← h1]
      refine rcall_spec (ref_down f va V u (behF u (f + 1) (kidsU u (-1) k)) (k : Int) g g' n n' hdom ha hkp hl cg hkf (by omega) hV (by omega)) rfl (fun j h => h) rfl fun V3 g3 n3 ⟨r3, k3⟩ => ?_
      simp (maxSteps := 1000000) (disch := first | assumption | omega | rfl | decide | simp only [fitsR, Bool.and_self]) [↓rules, rules, ↓rulesDp, rulesDq, lit_u64, Int.ofNat_inj, stops, q_int, q_bool, q_S_int, w1]
      refine ⟨u.length - (k + 1), by omega, k + 1, rfl, by omega, k3, V3, ?_, rfl, by omega⟩
      rw [hs, hfu, hb]
      exact r3
    · rw [if_neg c, List.append_nil] at hs
      simp (maxSteps := 1000000) (disch := first | assumption | omega | rfl | decide | simp only [fitsR, Bool.and_self]) [↓rules, rules, ↓rulesDp, rulesDq, lit_u64, Int.ofNat_inj, stops, rc_reeveref7_Orderl0, q_int, q_bool, q_S_int, h1, hlt, e2, c, w1]
      exact ⟨u.length - (k + 1), by omega, k + 1, rfl, by omega, hkp, V, by rw [hs]; exact hV, rfl, by omega⟩
  · refine ⟨0, .slice none 0 0, by simp, by simp, k0, Or.inl ⟨rfl, ?_⟩, by rfl⟩
    have : kidsU u (-1) 0 = [] := rfl
    rw [this]
    cases u.length <;> rfl
end Go.Proofs.Ytfcbhgiccgommaa.F10

namespace Go.Proofs.Ytfcbhgiccgommaa.F10
open Go Go.Proofs Go.Proofs.YtfcbhgiccgommaaAbs
variable [Base]
set_option maxHeartbeats 8000000
set_option maxRecDepth 100000
theorem rd_len {g : AMem} {v : Value} {xs ys : List Int} (h : rdI g v xs) (h' : rdI g v ys) : xs.length = ys.length := by
  have h1 := readI h
  have h2 := readI h'
  rw [h1] at h2
  simp only [Option.some.injEq, Prod.mk.injEq] at h2
  exact h2.1
theorem ordS_len (u : List Int) : (ordS u).length ≤ u.length := by
  unfold ordS
  split
  · rename_i h; exact ord_len h
  · simp
theorem forestSays (va : Value) (u : List Int) (i k : Int) (g : AMem) (n : Nat) (hdom : ∀ i, g i ≠ none → i < n) (ha : rdI g va u) : FnC Try.prog f_reevelaw10_ForestSays [va, .int .i64 i, .int .i64 k] g n (fun _ => False) (.bool true) g n := by
  refine fnC_of_rwp t_reevelaw10_ForestSays hm rfl fun hdom => ?_
  obtain ⟨a, ea, hva⟩ := ha.form
  simp (maxSteps := 1000000) (disch := first | assumption | omega | rfl | decide | simp only [fitsR, Bool.and_self]) [↓rules, rules, ↓rulesDp, rulesDq, lit_u64, Int.ofNat_inj, stops, rc_reevelaw10_ForestSays, q_int, q_bool, q_S_int, q_forest_Forest]
  refine rcall_quiet rfl (awake10 _ _) ?_
  by_cases c1 : (100 : Int) < u.length
  · simp (maxSteps := 1000000) (disch := first | assumption | omega | rfl | decide | simp only [fitsR, Bool.and_self]) [↓rules, rules, ↓rulesDp, rulesDq, lit_u64, Int.ofNat_inj, stops, q_int, q_bool, q_S_int, q_forest_Forest, hva, c1]
    rw [← hva]
    exact done_q hdom (Kept.refl hdom) rfl rfl
  have hl : u.length ≤ 1000 := by omega
  have hl2 : u.length ≤ 100000 := by omega
  simp (maxSteps := 1000000) (disch := first | assumption | omega | rfl | decide | simp only [fitsR, Bool.and_self]) [↓rules, rules, ↓rulesDp, rulesDq, lit_u64, Int.ofNat_inj, stops, q_int, q_bool, q_S_int, q_forest_Forest, hva, c1]
  rw [← hva]
  refine rcall_spec (law_up va g n hdom u ha) rfl (fun _ h => h.elim) rfl fun r g1 n1 ⟨hr, q1⟩ => ?_
  subst hr
  have l1 := q1.le
  have k1 := q1.new (.row [va] true)
  have hG1 : gset g1 n1 (some (.row [va] true)) n1 = some (.row [va] true) := by simp [gset]
  simp (maxSteps := 1000000) (disch := first | assumption | omega | rfl | decide | simp only [fitsR, Bool.and_self]) [↓rules, rules, ↓rulesDp, rulesDq, lit_u64, Int.ofNat_inj, stops, q_int, q_bool, q_S_int, q_forest_Forest, hva]
  rw [← hva]
  generalize hG : gset g1 n1 (some (.row [va] true)) = G1 at *
  refine ⟨by omega, ?_⟩
  refine rcall_spec (forest_Add va u i k _ _ k1.dom hl2 (ha.ext (k1.ext hdom))) rfl (fun _ h => h.elim) rfl fun r2 h2 m2 ⟨V2, hr2, rV2, q2⟩ => ?_
  subst hr2
  have p2 := k1.trans q2
  have l2 := q2.le
  have hc2 := rV2.cell
  have hf2 : h2 n1 = some (.row [va] true) := by rw [q2.same _ (by omega)]; exact hG1
  refine rrun_mono (K := fun l g3 n3 => YtfcbhgiccgommaaAbs.look 0 l = va ∧ YtfcbhgiccgommaaAbs.look 1 l = .int .i64 i ∧ YtfcbhgiccgommaaAbs.look 2 l = .int .i64 k ∧ YtfcbhgiccgommaaAbs.look 7 l = .pointer (some ⟨n1, 0, none⟩) ∧ YtfcbhgiccgommaaAbs.look 8 l = .pointer (some ⟨m2, 0, none⟩) ∧ YtfcbhgiccgommaaAbs.look 9 l = .bool (addOk u i k) ∧ gset h2 m2 (some (.row [V2] true)) = g3 ∧ m2 + 1 = n3) ?_ ?_
  · simp (maxSteps := 1000000) (disch := first | assumption | omega | rfl | decide | simp only [fitsR, Bool.and_self]) [↓rules, rules, ↓rulesDp, rulesDq, lit_u64, Int.ofNat_inj, stops, q_int, q_bool, q_S_int, q_forest_Forest, hc2, hva]
    omega
  rintro l _ _ ⟨z0, z1, z2, z7, z8, z9, rfl, rfl⟩
  have k2 := p2.new (.row [V2] true)
  have hg2 : gset h2 m2 (some (.row [V2] true)) n1 = some (.row [va] true) := by rw [gset, if_neg (by omega)]; exact hf2
  have hy2_2 : gset h2 m2 (some (.row [V2] true)) m2 = some (.row [V2] true) := by simp [gset]
  have rs2_2 := rV2.new (o := some (.row [V2] true)) p2.dom
  generalize hG2 : gset h2 m2 (some (.row [V2] true)) = G2 at *
  simp (maxSteps := 1000000) (disch := first | assumption | omega | rfl | decide | simp only [fitsR, Bool.and_self]) [↓rules, rules, ↓rulesDp, rulesDq, lit_u64, Int.ofNat_inj, stops, q_int, q_bool, q_S_int, q_forest_Forest, z0, z1, z2, z7, z8, z9]
  refine rcall_spec (ref_Add va u i k _ _ k2.dom hl2 (ha.ext (k2.ext hdom))) rfl (fun _ h => h.elim) rfl fun r3 h3 m3 ⟨V3, hr3, rV3, q3⟩ => ?_
  subst hr3
  have k3 := k2.trans q3
  have l3 := q3.le
  have hg3 : h3 n1 = some (.row [va] true) := by rw [q3.same _ (by omega)]; exact hg2
  have hy3_2 : h3 m2 = some (.row [V2] true) := by rw [q3.same _ (by omega)]; exact hy2_2
  have rs3_2 := rs2_2.kept k2.dom q3
  refine rrun_mono (K := fun l g3 n3 => YtfcbhgiccgommaaAbs.look 0 l = va ∧ YtfcbhgiccgommaaAbs.look 1 l = .int .i64 i ∧ YtfcbhgiccgommaaAbs.look 2 l = .int .i64 k ∧ YtfcbhgiccgommaaAbs.look 7 l = .pointer (some ⟨n1, 0, none⟩) ∧ YtfcbhgiccgommaaAbs.look 8 l = .pointer (some ⟨m2, 0, none⟩) ∧ YtfcbhgiccgommaaAbs.look 9 l = .bool (addOk u i k) ∧ YtfcbhgiccgommaaAbs.look 10 l = V3 ∧ YtfcbhgiccgommaaAbs.look 11 l = .bool (addOk u i k) ∧ h3 = g3 ∧ m3 = n3) ?_ ?_
  · simp (maxSteps := 1000000) (disch := first | assumption | omega | rfl | decide | simp only [fitsR, Bool.and_self]) [↓rules, rules, ↓rulesDp, rulesDq, lit_u64, Int.ofNat_inj, stops, q_int, q_bool, q_S_int, q_forest_Forest, z0, z1, z2, z7, z8, z9]
  clear z0 z1 z2 z7 z8 z9
  rintro l _ _ ⟨z0, z1, z2, z7, z8, z9, z10, z11, rfl, rfl⟩
  simp (maxSteps := 1000000) (disch := first | assumption | omega | rfl | decide | simp only [fitsR, Bool.and_self]) [↓rules, rules, ↓rulesDp, rulesDq, lit_u64, Int.ofNat_inj, stops, q_int, q_bool, q_S_int, q_forest_Forest, z0, z1, z2, z7, z8, z9, z10, z11, hg3]
  refine rcall_spec (forest_Drop va u i _ _ k3.dom hl2 (ha.ext (k3.ext hdom))) rfl (fun _ h => h.elim) rfl fun r4 h4 m4 ⟨V4, hr4, rV4, q4⟩ => ?_
  subst hr4
  have p4 := k3.trans q4
  have l4 := q4.le
  have hc4 := rV4.cell
  have hf4 : h4 n1 = some (.row [va] true) := by rw [q4.same _ (by omega)]; exact hg3
  have hx4_2 : h4 m2 = some (.row [V2] true) := by rw [q4.same _ (by omega)]; exact hy3_2
  have rr4_2 := rs3_2.kept k3.dom q4
  have rr4_3 := rV3.kept k3.dom q4
  refine rrun_mono (K := fun l g3 n3 => YtfcbhgiccgommaaAbs.look 0 l = va ∧ YtfcbhgiccgommaaAbs.look 1 l = .int .i64 i ∧ YtfcbhgiccgommaaAbs.look 2 l = .int .i64 k ∧ YtfcbhgiccgommaaAbs.look 7 l = .pointer (some ⟨n1, 0, none⟩) ∧ YtfcbhgiccgommaaAbs.look 8 l = .pointer (some ⟨m2, 0, none⟩) ∧ YtfcbhgiccgommaaAbs.look 9 l = .bool (addOk u i k) ∧ YtfcbhgiccgommaaAbs.look 10 l = V3 ∧ YtfcbhgiccgommaaAbs.look 11 l = .bool (addOk u i k) ∧ YtfcbhgiccgommaaAbs.look 12 l = .pointer (some ⟨m4, 0, none⟩) ∧ YtfcbhgiccgommaaAbs.look 13 l = .bool (mayF u i) ∧ gset h4 m4 (some (.row [V4] true)) = g3 ∧ m4 + 1 = n3) ?_ ?_
  · simp (maxSteps := 1000000) (disch := first | assumption | omega | rfl | decide | simp only [fitsR, Bool.and_self]) [↓rules, rules, ↓rulesDp, rulesDq, lit_u64, Int.ofNat_inj, stops, q_int, q_bool, q_S_int, q_forest_Forest, hc4, z0, z1, z2, z7, z8, z9, z10, z11]
    omega
  clear z0 z1 z2 z7 z8 z9 z10 z11
  rintro l _ _ ⟨z0, z1, z2, z7, z8, z9, z10, z11, z12, z13, rfl, rfl⟩
  have k4 := p4.new (.row [V4] true)
  have hg4 : gset h4 m4 (some (.row [V4] true)) n1 = some (.row [va] true) := by rw [gset, if_neg (by omega)]; exact hf4
  have hy4_2 : gset h4 m4 (some (.row [V4] true)) m2 = some (.row [V2] true) := by rw [gset, if_neg (by omega)]; exact hx4_2
  have hy4_4 : gset h4 m4 (some (.row [V4] true)) m4 = some (.row [V4] true) := by simp [gset]
  have rs4_2 := rr4_2.new (o := some (.row [V4] true)) p4.dom
  have rs4_3 := rr4_3.new (o := some (.row [V4] true)) p4.dom
  have rs4_4 := rV4.new (o := some (.row [V4] true)) p4.dom
  generalize hG4 : gset h4 m4 (some (.row [V4] true)) = G4 at *
  simp (maxSteps := 1000000) (disch := first | assumption | omega | rfl | decide | simp only [fitsR, Bool.and_self]) [↓rules, rules, ↓rulesDp, rulesDq, lit_u64, Int.ofNat_inj, stops, q_int, q_bool, q_S_int, q_forest_Forest, z0, z1, z2, z7, z8, z9, z10, z11, z12, z13]
  refine rcall_spec (ref_Drop va u i _ _ k4.dom hl2 (ha.ext (k4.ext hdom))) rfl (fun _ h => h.elim) rfl fun r5 h5 m5 ⟨V5, hr5, rV5, q5⟩ => ?_
  subst hr5
  have k5 := k4.trans q5
  have l5 := q5.le
  have hg5 : h5 n1 = some (.row [va] true) := by rw [q5.same _ (by omega)]; exact hg4
  have hy5_2 : h5 m2 = some (.row [V2] true) := by rw [q5.same _ (by omega)]; exact hy4_2
  have hy5_4 : h5 m4 = some (.row [V4] true) := by rw [q5.same _ (by omega)]; exact hy4_4
  have rs5_2 := rs4_2.kept k4.dom q5
  have rs5_3 := rs4_3.kept k4.dom q5
  have rs5_4 := rs4_4.kept k4.dom q5
  refine rrun_mono (K := fun l g3 n3 => YtfcbhgiccgommaaAbs.look 0 l = va ∧ YtfcbhgiccgommaaAbs.look 1 l = .int .i64 i ∧ YtfcbhgiccgommaaAbs.look 2 l = .int .i64 k ∧ YtfcbhgiccgommaaAbs.look 7 l = .pointer (some ⟨n1, 0, none⟩) ∧ YtfcbhgiccgommaaAbs.look 8 l = .pointer (some ⟨m2, 0, none⟩) ∧ YtfcbhgiccgommaaAbs.look 9 l = .bool (addOk u i k) ∧ YtfcbhgiccgommaaAbs.look 10 l = V3 ∧ YtfcbhgiccgommaaAbs.look 11 l = .bool (addOk u i k) ∧ YtfcbhgiccgommaaAbs.look 12 l = .pointer (some ⟨m4, 0, none⟩) ∧ YtfcbhgiccgommaaAbs.look 13 l = .bool (mayF u i) ∧ YtfcbhgiccgommaaAbs.look 14 l = V5 ∧ YtfcbhgiccgommaaAbs.look 15 l = .bool (mayF u i) ∧ h5 = g3 ∧ m5 = n3) ?_ ?_
  · simp (maxSteps := 1000000) (disch := first | assumption | omega | rfl | decide | simp only [fitsR, Bool.and_self]) [↓rules, rules, ↓rulesDp, rulesDq, lit_u64, Int.ofNat_inj, stops, q_int, q_bool, q_S_int, q_forest_Forest, z0, z1, z2, z7, z8, z9, z10, z11, z12, z13]
  clear z0 z1 z2 z7 z8 z9 z10 z11 z12 z13
  rintro l _ _ ⟨z0, z1, z2, z7, z8, z9, z10, z11, z12, z13, z14, z15, rfl, rfl⟩
  simp (maxSteps := 1000000) (disch := first | assumption | omega | rfl | decide | simp only [fitsR, Bool.and_self]) [↓rules, rules, ↓rulesDp, rulesDq, lit_u64, Int.ofNat_inj, stops, q_int, q_bool, q_S_int, q_forest_Forest, z0, z1, z2, z7, z8, z9, z10, z11, z12, z13, z14, z15, hg5]
  refine rcall_spec (forest_Move va u i k _ _ k5.dom hl2 (ha.ext (k5.ext hdom))) rfl (fun _ h => h.elim) rfl fun r6 h6 m6 ⟨V6, hr6, rV6, q6⟩ => ?_
  subst hr6
  have p6 := k5.trans q6
  have l6 := q6.le
  have hc6 := rV6.cell
  have hf6 : h6 n1 = some (.row [va] true) := by rw [q6.same _ (by omega)]; exact hg5
  have hx6_2 : h6 m2 = some (.row [V2] true) := by rw [q6.same _ (by omega)]; exact hy5_2
  have hx6_4 : h6 m4 = some (.row [V4] true) := by rw [q6.same _ (by omega)]; exact hy5_4
  have rr6_2 := rs5_2.kept k5.dom q6
  have rr6_3 := rs5_3.kept k5.dom q6
  have rr6_4 := rs5_4.kept k5.dom q6
  have rr6_5 := rV5.kept k5.dom q6
  refine rrun_mono (K := fun l g3 n3 => YtfcbhgiccgommaaAbs.look 0 l = va ∧ YtfcbhgiccgommaaAbs.look 1 l = .int .i64 i ∧ YtfcbhgiccgommaaAbs.look 2 l = .int .i64 k ∧ YtfcbhgiccgommaaAbs.look 7 l = .pointer (some ⟨n1, 0, none⟩) ∧ YtfcbhgiccgommaaAbs.look 8 l = .pointer (some ⟨m2, 0, none⟩) ∧ YtfcbhgiccgommaaAbs.look 9 l = .bool (addOk u i k) ∧ YtfcbhgiccgommaaAbs.look 10 l = V3 ∧ YtfcbhgiccgommaaAbs.look 11 l = .bool (addOk u i k) ∧ YtfcbhgiccgommaaAbs.look 12 l = .pointer (some ⟨m4, 0, none⟩) ∧ YtfcbhgiccgommaaAbs.look 13 l = .bool (mayF u i) ∧ YtfcbhgiccgommaaAbs.look 14 l = V5 ∧ YtfcbhgiccgommaaAbs.look 15 l = .bool (mayF u i) ∧ YtfcbhgiccgommaaAbs.look 16 l = .pointer (some ⟨m6, 0, none⟩) ∧ YtfcbhgiccgommaaAbs.look 17 l = .bool (moveOk u i k) ∧ gset h6 m6 (some (.row [V6] true)) = g3 ∧ m6 + 1 = n3) ?_ ?_
  · simp (maxSteps := 1000000) (disch := first | assumption | omega | rfl | decide | simp only [fitsR, Bool.and_self]) [↓rules, rules, ↓rulesDp, rulesDq, lit_u64, Int.ofNat_inj, stops, q_int, q_bool, q_S_int, q_forest_Forest, hc6, z0, z1, z2, z7, z8, z9, z10, z11, z12, z13, z14, z15]
    omega
  clear z0 z1 z2 z7 z8 z9 z10 z11 z12 z13 z14 z15
  rintro l _ _ ⟨z0, z1, z2, z7, z8, z9, z10, z11, z12, z13, z14, z15, z16, z17, rfl, rfl⟩
  have k6 := p6.new (.row [V6] true)
  have hg6 : gset h6 m6 (some (.row [V6] true)) n1 = some (.row [va] true) := by rw [gset, if_neg (by omega)]; exact hf6
  have hy6_2 : gset h6 m6 (some (.row [V6] true)) m2 = some (.row [V2] true) := by rw [gset, if_neg (by omega)]; exact hx6_2
  have hy6_4 : gset h6 m6 (some (.row [V6] true)) m4 = some (.row [V4] true) := by rw [gset, if_neg (by omega)]; exact hx6_4
  have hy6_6 : gset h6 m6 (some (.row [V6] true)) m6 = some (.row [V6] true) := by simp [gset]
  have rs6_2 := rr6_2.new (o := some (.row [V6] true)) p6.dom
  have rs6_3 := rr6_3.new (o := some (.row [V6] true)) p6.dom
  have rs6_4 := rr6_4.new (o := some (.row [V6] true)) p6.dom
  have rs6_5 := rr6_5.new (o := some (.row [V6] true)) p6.dom
  have rs6_6 := rV6.new (o := some (.row [V6] true)) p6.dom
  generalize hG6 : gset h6 m6 (some (.row [V6] true)) = G6 at *
  simp (maxSteps := 1000000) (disch := first | assumption | omega | rfl | decide | simp only [fitsR, Bool.and_self]) [↓rules, rules, ↓rulesDp, rulesDq, lit_u64, Int.ofNat_inj, stops, q_int, q_bool, q_S_int, q_forest_Forest, z0, z1, z2, z7, z8, z9, z10, z11, z12, z13, z14, z15, z16, z17]
  refine rcall_spec (ref_Move va u i k _ _ k6.dom hl2 (ha.ext (k6.ext hdom))) rfl (fun _ h => h.elim) rfl fun r7 h7 m7 ⟨V7, hr7, rV7, q7⟩ => ?_
  subst hr7
  have k7 := k6.trans q7
  have l7 := q7.le
  have hg7 : h7 n1 = some (.row [va] true) := by rw [q7.same _ (by omega)]; exact hg6
  have hy7_2 : h7 m2 = some (.row [V2] true) := by rw [q7.same _ (by omega)]; exact hy6_2
  have hy7_4 : h7 m4 = some (.row [V4] true) := by rw [q7.same _ (by omega)]; exact hy6_4
  have hy7_6 : h7 m6 = some (.row [V6] true) := by rw [q7.same _ (by omega)]; exact hy6_6
  have rs7_2 := rs6_2.kept k6.dom q7
  have rs7_3 := rs6_3.kept k6.dom q7
  have rs7_4 := rs6_4.kept k6.dom q7
  have rs7_5 := rs6_5.kept k6.dom q7
  have rs7_6 := rs6_6.kept k6.dom q7
  refine rrun_mono (K := fun l g3 n3 => YtfcbhgiccgommaaAbs.look 0 l = va ∧ YtfcbhgiccgommaaAbs.look 1 l = .int .i64 i ∧ YtfcbhgiccgommaaAbs.look 7 l = .pointer (some ⟨n1, 0, none⟩) ∧ YtfcbhgiccgommaaAbs.look 8 l = .pointer (some ⟨m2, 0, none⟩) ∧ YtfcbhgiccgommaaAbs.look 9 l = .bool (addOk u i k) ∧ YtfcbhgiccgommaaAbs.look 10 l = V3 ∧ YtfcbhgiccgommaaAbs.look 11 l = .bool (addOk u i k) ∧ YtfcbhgiccgommaaAbs.look 12 l = .pointer (some ⟨m4, 0, none⟩) ∧ YtfcbhgiccgommaaAbs.look 13 l = .bool (mayF u i) ∧ YtfcbhgiccgommaaAbs.look 14 l = V5 ∧ YtfcbhgiccgommaaAbs.look 15 l = .bool (mayF u i) ∧ YtfcbhgiccgommaaAbs.look 16 l = .pointer (some ⟨m6, 0, none⟩) ∧ YtfcbhgiccgommaaAbs.look 17 l = .bool (moveOk u i k) ∧ YtfcbhgiccgommaaAbs.look 18 l = V7 ∧ YtfcbhgiccgommaaAbs.look 19 l = .bool (moveOk u i k) ∧ h7 = g3 ∧ m7 = n3) ?_ ?_
  · simp (maxSteps := 1000000) (disch := first | assumption | omega | rfl | decide | simp only [fitsR, Bool.and_self]) [↓rules, rules, ↓rulesDp, rulesDq, lit_u64, Int.ofNat_inj, stops, q_int, q_bool, q_S_int, q_forest_Forest, z0, z1, z2, z7, z8, z9, z10, z11, z12, z13, z14, z15, z16, z17]
  clear z0 z1 z2 z7 z8 z9 z10 z11 z12 z13 z14 z15 z16 z17
  rintro l _ _ ⟨z0, z1, z7, z8, z9, z10, z11, z12, z13, z14, z15, z16, z17, z18, z19, rfl, rfl⟩
  simp (maxSteps := 1000000) (disch := first | assumption | omega | rfl | decide | simp only [fitsR, Bool.and_self]) [↓rules, rules, ↓rulesDp, rulesDq, lit_u64, Int.ofNat_inj, stops, q_int, q_bool, q_S_int, q_forest_Forest, z0, z1, z7, z8, z9, z10, z11, z12, z13, z14, z15, z16, z17, z18, z19, hg7]
  refine rcall_spec (forest_Prune va u i _ _ k7.dom hl2 (ha.ext (k7.ext hdom))) rfl (fun _ h => h.elim) rfl fun r8 h8 m8 ⟨V8, hr8, rV8, q8⟩ => ?_
  subst hr8
  have p8 := k7.trans q8
  have l8 := q8.le
  have hc8 := rV8.cell
  have hf8 : h8 n1 = some (.row [va] true) := by rw [q8.same _ (by omega)]; exact hg7
  have hx8_2 : h8 m2 = some (.row [V2] true) := by rw [q8.same _ (by omega)]; exact hy7_2
  have hx8_4 : h8 m4 = some (.row [V4] true) := by rw [q8.same _ (by omega)]; exact hy7_4
  have hx8_6 : h8 m6 = some (.row [V6] true) := by rw [q8.same _ (by omega)]; exact hy7_6
  have rr8_2 := rs7_2.kept k7.dom q8
  have rr8_3 := rs7_3.kept k7.dom q8
  have rr8_4 := rs7_4.kept k7.dom q8
  have rr8_5 := rs7_5.kept k7.dom q8
  have rr8_6 := rs7_6.kept k7.dom q8
  have rr8_7 := rV7.kept k7.dom q8
  refine rrun_mono (K := fun l g3 n3 => YtfcbhgiccgommaaAbs.look 0 l = va ∧ YtfcbhgiccgommaaAbs.look 1 l = .int .i64 i ∧ YtfcbhgiccgommaaAbs.look 7 l = .pointer (some ⟨n1, 0, none⟩) ∧ YtfcbhgiccgommaaAbs.look 8 l = .pointer (some ⟨m2, 0, none⟩) ∧ YtfcbhgiccgommaaAbs.look 9 l = .bool (addOk u i k) ∧ YtfcbhgiccgommaaAbs.look 10 l = V3 ∧ YtfcbhgiccgommaaAbs.look 11 l = .bool (addOk u i k) ∧ YtfcbhgiccgommaaAbs.look 12 l = .pointer (some ⟨m4, 0, none⟩) ∧ YtfcbhgiccgommaaAbs.look 13 l = .bool (mayF u i) ∧ YtfcbhgiccgommaaAbs.look 14 l = V5 ∧ YtfcbhgiccgommaaAbs.look 15 l = .bool (mayF u i) ∧ YtfcbhgiccgommaaAbs.look 16 l = .pointer (some ⟨m6, 0, none⟩) ∧ YtfcbhgiccgommaaAbs.look 17 l = .bool (moveOk u i k) ∧ YtfcbhgiccgommaaAbs.look 18 l = V7 ∧ YtfcbhgiccgommaaAbs.look 19 l = .bool (moveOk u i k) ∧ YtfcbhgiccgommaaAbs.look 20 l = .pointer (some ⟨m8, 0, none⟩) ∧ YtfcbhgiccgommaaAbs.look 21 l = .bool (mayF u i) ∧ gset h8 m8 (some (.row [V8] true)) = g3 ∧ m8 + 1 = n3) ?_ ?_
  · simp (maxSteps := 1000000) (disch := first | assumption | omega | rfl | decide | simp only [fitsR, Bool.and_self]) [↓rules, rules, ↓rulesDp, rulesDq, lit_u64, Int.ofNat_inj, stops, q_int, q_bool, q_S_int, q_forest_Forest, hc8, z0, z1, z7, z8, z9, z10, z11, z12, z13, z14, z15, z16, z17, z18, z19]
    omega
  clear z0 z1 z7 z8 z9 z10 z11 z12 z13 z14 z15 z16 z17 z18 z19
  rintro l _ _ ⟨z0, z1, z7, z8, z9, z10, z11, z12, z13, z14, z15, z16, z17, z18, z19, z20, z21, rfl, rfl⟩
  have k8 := p8.new (.row [V8] true)
  have hg8 : gset h8 m8 (some (.row [V8] true)) n1 = some (.row [va] true) := by rw [gset, if_neg (by omega)]; exact hf8
  have hy8_2 : gset h8 m8 (some (.row [V8] true)) m2 = some (.row [V2] true) := by rw [gset, if_neg (by omega)]; exact hx8_2
  have hy8_4 : gset h8 m8 (some (.row [V8] true)) m4 = some (.row [V4] true) := by rw [gset, if_neg (by omega)]; exact hx8_4
  have hy8_6 : gset h8 m8 (some (.row [V8] true)) m6 = some (.row [V6] true) := by rw [gset, if_neg (by omega)]; exact hx8_6
  have hy8_8 : gset h8 m8 (some (.row [V8] true)) m8 = some (.row [V8] true) := by simp [gset]
  have rs8_2 := rr8_2.new (o := some (.row [V8] true)) p8.dom
  have rs8_3 := rr8_3.new (o := some (.row [V8] true)) p8.dom
  have rs8_4 := rr8_4.new (o := some (.row [V8] true)) p8.dom
  have rs8_5 := rr8_5.new (o := some (.row [V8] true)) p8.dom
  have rs8_6 := rr8_6.new (o := some (.row [V8] true)) p8.dom
  have rs8_7 := rr8_7.new (o := some (.row [V8] true)) p8.dom
  have rs8_8 := rV8.new (o := some (.row [V8] true)) p8.dom
  generalize hG8 : gset h8 m8 (some (.row [V8] true)) = G8 at *
  simp (maxSteps := 1000000) (disch := first | assumption | omega | rfl | decide | simp only [fitsR, Bool.and_self]) [↓rules, rules, ↓rulesDp, rulesDq, lit_u64, Int.ofNat_inj, stops, q_int, q_bool, q_S_int, q_forest_Forest, z0, z1, z7, z8, z9, z10, z11, z12, z13, z14, z15, z16, z17, z18, z19, z20, z21]
  refine rcall_spec (ref_Prune va u i _ _ k8.dom hl2 (ha.ext (k8.ext hdom))) rfl (fun _ h => h.elim) rfl fun r9 h9 m9 ⟨V9, hr9, rV9, q9⟩ => ?_
  subst hr9
  have k9 := k8.trans q9
  have l9 := q9.le
  have hg9 : h9 n1 = some (.row [va] true) := by rw [q9.same _ (by omega)]; exact hg8
  have hy9_2 : h9 m2 = some (.row [V2] true) := by rw [q9.same _ (by omega)]; exact hy8_2
  have hy9_4 : h9 m4 = some (.row [V4] true) := by rw [q9.same _ (by omega)]; exact hy8_4
  have hy9_6 : h9 m6 = some (.row [V6] true) := by rw [q9.same _ (by omega)]; exact hy8_6
  have hy9_8 : h9 m8 = some (.row [V8] true) := by rw [q9.same _ (by omega)]; exact hy8_8
  have rs9_2 := rs8_2.kept k8.dom q9
  have rs9_3 := rs8_3.kept k8.dom q9
  have rs9_4 := rs8_4.kept k8.dom q9
  have rs9_5 := rs8_5.kept k8.dom q9
  have rs9_6 := rs8_6.kept k8.dom q9
  have rs9_7 := rs8_7.kept k8.dom q9
  have rs9_8 := rs8_8.kept k8.dom q9
  refine rrun_mono (K := fun l g3 n3 => YtfcbhgiccgommaaAbs.look 0 l = va ∧ YtfcbhgiccgommaaAbs.look 1 l = .int .i64 i ∧ YtfcbhgiccgommaaAbs.look 7 l = .pointer (some ⟨n1, 0, none⟩) ∧ YtfcbhgiccgommaaAbs.look 8 l = .pointer (some ⟨m2, 0, none⟩) ∧ YtfcbhgiccgommaaAbs.look 9 l = .bool (addOk u i k) ∧ YtfcbhgiccgommaaAbs.look 10 l = V3 ∧ YtfcbhgiccgommaaAbs.look 11 l = .bool (addOk u i k) ∧ YtfcbhgiccgommaaAbs.look 12 l = .pointer (some ⟨m4, 0, none⟩) ∧ YtfcbhgiccgommaaAbs.look 13 l = .bool (mayF u i) ∧ YtfcbhgiccgommaaAbs.look 14 l = V5 ∧ YtfcbhgiccgommaaAbs.look 15 l = .bool (mayF u i) ∧ YtfcbhgiccgommaaAbs.look 16 l = .pointer (some ⟨m6, 0, none⟩) ∧ YtfcbhgiccgommaaAbs.look 17 l = .bool (moveOk u i k) ∧ YtfcbhgiccgommaaAbs.look 18 l = V7 ∧ YtfcbhgiccgommaaAbs.look 19 l = .bool (moveOk u i k) ∧ YtfcbhgiccgommaaAbs.look 20 l = .pointer (some ⟨m8, 0, none⟩) ∧ YtfcbhgiccgommaaAbs.look 21 l = .bool (mayF u i) ∧ YtfcbhgiccgommaaAbs.look 22 l = V9 ∧ YtfcbhgiccgommaaAbs.look 23 l = .bool (mayF u i) ∧ h9 = g3 ∧ m9 = n3) ?_ ?_
  · simp (maxSteps := 1000000) (disch := first | assumption | omega | rfl | decide | simp only [fitsR, Bool.and_self]) [↓rules, rules, ↓rulesDp, rulesDq, lit_u64, Int.ofNat_inj, stops, q_int, q_bool, q_S_int, q_forest_Forest, z0, z1, z7, z8, z9, z10, z11, z12, z13, z14, z15, z16, z17, z18, z19, z20, z21]
  clear z0 z1 z7 z8 z9 z10 z11 z12 z13 z14 z15 z16 z17 z18 z19 z20 z21
  rintro l _ _ ⟨z0, z1, z7, z8, z9, z10, z11, z12, z13, z14, z15, z16, z17, z18, z19, z20, z21, z22, z23, rfl, rfl⟩
  simp (maxSteps := 1000000) (disch := first | assumption | omega | rfl | decide | simp only [fitsR, Bool.and_self]) [↓rules, rules, ↓rulesDp, rulesDq, lit_u64, Int.ofNat_inj, stops, q_int, q_bool, q_S_int, q_forest_Forest, z0, z1, z7, z8, z9, z10, z11, z12, z13, z14, z15, z16, z17, z18, z19, z20, z21, z22, z23, hg9]
  refine rcall_quiet rfl (forest_Good va u _ _ hl2 (ha.ext (k9.ext hdom))) ?_
  simp (maxSteps := 1000000) (disch := first | assumption | omega | rfl | decide | simp only [fitsR, Bool.and_self]) [↓rules, rules, ↓rulesDp, rulesDq, lit_u64, Int.ofNat_inj, stops, q_int, q_bool, q_S_int, q_forest_Forest, z0, z1, z7, z8, z9, z10, z11, z12, z13, z14, z15, z16, z17, z18, z19, z20, z21, z22, z23]
  refine rcall_quiet rfl (ref_Good va u _ _ hl2 (ha.ext (k9.ext hdom))) ?_
  have hbe : (goodF u == goodF u) = true := by simp
  simp (maxSteps := 1000000) (disch := first | assumption | omega | rfl | decide | simp only [fitsR, Bool.and_self]) [↓rules, rules, ↓rulesDp, rulesDq, lit_u64, Int.ofNat_inj, stops, q_int, q_bool, q_S_int, q_forest_Forest, bin_eql_bool tu_bool, hbe, hg9]
  refine rcall_quiet rfl (forest_Depth va u i _ _ hl2 (ha.ext (k9.ext hdom))) ?_
  simp (maxSteps := 1000000) (disch := first | assumption | omega | rfl | decide | simp only [fitsR, Bool.and_self]) [↓rules, rules, ↓rulesDp, rulesDq, lit_u64, Int.ofNat_inj, stops, q_int, q_bool, q_S_int, q_forest_Forest, z0, z1, z7, z8, z9, z10, z11, z12, z13, z14, z15, z16, z17, z18, z19, z20, z21, z22, z23]
  refine rcall_quiet rfl (ref_Depth va u i _ _ hl2 (ha.ext (k9.ext hdom))) ?_
  refine rrun_cut 2 (K1 := fun l g3 n3 => YtfcbhgiccgommaaAbs.look 0 l = va ∧ YtfcbhgiccgommaaAbs.look 1 l = .int .i64 i ∧ YtfcbhgiccgommaaAbs.look 7 l = .pointer (some ⟨n1, 0, none⟩) ∧ YtfcbhgiccgommaaAbs.look 8 l = .pointer (some ⟨m2, 0, none⟩) ∧ YtfcbhgiccgommaaAbs.look 9 l = .bool (addOk u i k) ∧ YtfcbhgiccgommaaAbs.look 10 l = V3 ∧ YtfcbhgiccgommaaAbs.look 11 l = .bool (addOk u i k) ∧ YtfcbhgiccgommaaAbs.look 12 l = .pointer (some ⟨m4, 0, none⟩) ∧ YtfcbhgiccgommaaAbs.look 13 l = .bool (mayF u i) ∧ YtfcbhgiccgommaaAbs.look 14 l = V5 ∧ YtfcbhgiccgommaaAbs.look 15 l = .bool (mayF u i) ∧ YtfcbhgiccgommaaAbs.look 16 l = .pointer (some ⟨m6, 0, none⟩) ∧ YtfcbhgiccgommaaAbs.look 17 l = .bool (moveOk u i k) ∧ YtfcbhgiccgommaaAbs.look 18 l = V7 ∧ YtfcbhgiccgommaaAbs.look 19 l = .bool (moveOk u i k) ∧ YtfcbhgiccgommaaAbs.look 20 l = .pointer (some ⟨m8, 0, none⟩) ∧ YtfcbhgiccgommaaAbs.look 21 l = .bool (mayF u i) ∧ YtfcbhgiccgommaaAbs.look 22 l = V9 ∧ YtfcbhgiccgommaaAbs.look 23 l = .bool (mayF u i) ∧ YtfcbhgiccgommaaAbs.look 96 l = .bool true ∧ h9 = g3 ∧ m9 = n3) ?_ ?_
  · dsimp only [List.take]
    simp (maxSteps := 1000000) (disch := first | assumption | omega | rfl | decide | simp only [fitsR, Bool.and_self]) [↓rules, rules, ↓rulesDp, rulesDq, lit_u64, Int.ofNat_inj, stops, q_int, q_bool, q_S_int, q_forest_Forest, z0, z1, z7, z8, z9, z10, z11, z12, z13, z14, z15, z16, z17, z18, z19, z20, z21, z22, z23]
  clear z0 z1 z7 z8 z9 z10 z11 z12 z13 z14 z15 z16 z17 z18 z19 z20 z21 z22 z23
  rintro l _ _ ⟨z0, z1, z7, z8, z9, z10, z11, z12, z13, z14, z15, z16, z17, z18, z19, z20, z21, z22, z23, z96, rfl, rfl⟩
  dsimp only [List.drop]
  simp (maxSteps := 1000000) (disch := first | assumption | omega | rfl | decide | simp only [fitsR, Bool.and_self]) [↓rules, rules, ↓rulesDp, rulesDq, lit_u64, Int.ofNat_inj, stops, q_int, q_bool, q_S_int, q_forest_Forest, z0, z1, z7, z8, z9, z10, z11, z12, z13, z14, z15, z16, z17, z18, z19, z20, z21, z22, z23, z96, hg9]
  refine rcall_spec (forest_Kids va u i _ _ k9.dom hl2 (ha.ext (k9.ext hdom))) rfl (fun _ h => h.elim) rfl fun V10 h10 m10 ⟨rV10, q10⟩ => ?_
  have k10 := k9.trans q10
  have l10 := q10.le
  have hg10 : h10 n1 = some (.row [va] true) := by rw [q10.same _ (by omega)]; exact hg9
  have hy10_2 : h10 m2 = some (.row [V2] true) := by rw [q10.same _ (by omega)]; exact hy9_2
  have hy10_4 : h10 m4 = some (.row [V4] true) := by rw [q10.same _ (by omega)]; exact hy9_4
  have hy10_6 : h10 m6 = some (.row [V6] true) := by rw [q10.same _ (by omega)]; exact hy9_6
  have hy10_8 : h10 m8 = some (.row [V8] true) := by rw [q10.same _ (by omega)]; exact hy9_8
  have rs10_2 := rs9_2.kept k9.dom q10
  have rs10_3 := rs9_3.kept k9.dom q10
  have rs10_4 := rs9_4.kept k9.dom q10
  have rs10_5 := rs9_5.kept k9.dom q10
  have rs10_6 := rs9_6.kept k9.dom q10
  have rs10_7 := rs9_7.kept k9.dom q10
  have rs10_8 := rs9_8.kept k9.dom q10
  have rs10_9 := rV9.kept k9.dom q10
  simp (maxSteps := 1000000) (disch := first | assumption | omega | rfl | decide | simp only [fitsR, Bool.and_self]) [↓rules, rules, ↓rulesDp, rulesDq, lit_u64, Int.ofNat_inj, stops, q_int, q_bool, q_S_int, q_forest_Forest, z0, z1, z7, z8, z9, z10, z11, z12, z13, z14, z15, z16, z17, z18, z19, z20, z21, z22, z23]
  refine rcall_spec (ref_Kids va u i _ _ k10.dom hl2 (ha.ext (k10.ext hdom))) rfl (fun _ h => h.elim) rfl fun V11 h11 m11 ⟨rV11, q11⟩ => ?_
  have k11 := k10.trans q11
  have l11 := q11.le
  have hg11 : h11 n1 = some (.row [va] true) := by rw [q11.same _ (by omega)]; exact hg10
  have hy11_2 : h11 m2 = some (.row [V2] true) := by rw [q11.same _ (by omega)]; exact hy10_2
  have hy11_4 : h11 m4 = some (.row [V4] true) := by rw [q11.same _ (by omega)]; exact hy10_4
  have hy11_6 : h11 m6 = some (.row [V6] true) := by rw [q11.same _ (by omega)]; exact hy10_6
  have hy11_8 : h11 m8 = some (.row [V8] true) := by rw [q11.same _ (by omega)]; exact hy10_8
  have rs11_2 := rs10_2.kept k10.dom q11
  have rs11_3 := rs10_3.kept k10.dom q11
  have rs11_4 := rs10_4.kept k10.dom q11
  have rs11_5 := rs10_5.kept k10.dom q11
  have rs11_6 := rs10_6.kept k10.dom q11
  have rs11_7 := rs10_7.kept k10.dom q11
  have rs11_8 := rs10_8.kept k10.dom q11
  have rs11_9 := rs10_9.kept k10.dom q11
  have rw10 := rV10.kept k10.dom q11
  simp (maxSteps := 1000000) (disch := first | assumption | omega | rfl | decide | simp only [fitsR, Bool.and_self]) [↓rules, rules, ↓rulesDp, rulesDq, lit_u64, Int.ofNat_inj, stops, q_int, q_bool, q_S_int, q_forest_Forest, z0, z1, z7, z8, z9, z10, z11, z12, z13, z14, z15, z16, z17, z18, z19, z20, z21, z22, z23]
  refine rcall_quiet rfl (intsI V10 V11 (kidsS u i) (kidsS u i) _ _ (by have := kidsS_len u i; omega) (by have := kidsS_len u i; omega) rw10.rd rV11.rd) ?_
  rw [show decide ((kidsS u i) = (kidsS u i)) = true by simp]
  refine rrun_cut 1 (K1 := fun l g3 n3 => YtfcbhgiccgommaaAbs.look 0 l = va ∧ YtfcbhgiccgommaaAbs.look 1 l = .int .i64 i ∧ YtfcbhgiccgommaaAbs.look 7 l = .pointer (some ⟨n1, 0, none⟩) ∧ YtfcbhgiccgommaaAbs.look 8 l = .pointer (some ⟨m2, 0, none⟩) ∧ YtfcbhgiccgommaaAbs.look 9 l = .bool (addOk u i k) ∧ YtfcbhgiccgommaaAbs.look 10 l = V3 ∧ YtfcbhgiccgommaaAbs.look 11 l = .bool (addOk u i k) ∧ YtfcbhgiccgommaaAbs.look 12 l = .pointer (some ⟨m4, 0, none⟩) ∧ YtfcbhgiccgommaaAbs.look 13 l = .bool (mayF u i) ∧ YtfcbhgiccgommaaAbs.look 14 l = V5 ∧ YtfcbhgiccgommaaAbs.look 15 l = .bool (mayF u i) ∧ YtfcbhgiccgommaaAbs.look 16 l = .pointer (some ⟨m6, 0, none⟩) ∧ YtfcbhgiccgommaaAbs.look 17 l = .bool (moveOk u i k) ∧ YtfcbhgiccgommaaAbs.look 18 l = V7 ∧ YtfcbhgiccgommaaAbs.look 19 l = .bool (moveOk u i k) ∧ YtfcbhgiccgommaaAbs.look 20 l = .pointer (some ⟨m8, 0, none⟩) ∧ YtfcbhgiccgommaaAbs.look 21 l = .bool (mayF u i) ∧ YtfcbhgiccgommaaAbs.look 22 l = V9 ∧ YtfcbhgiccgommaaAbs.look 23 l = .bool (mayF u i) ∧ YtfcbhgiccgommaaAbs.look 105 l = .bool true ∧ h11 = g3 ∧ m11 = n3) ?_ ?_
  · dsimp only [List.take]
    simp (maxSteps := 1000000) (disch := first | assumption | omega | rfl | decide | simp only [fitsR, Bool.and_self]) [↓rules, rules, ↓rulesDp, rulesDq, lit_u64, Int.ofNat_inj, stops, q_int, q_bool, q_S_int, q_forest_Forest, z0, z1, z7, z8, z9, z10, z11, z12, z13, z14, z15, z16, z17, z18, z19, z20, z21, z22, z23]
  clear z0 z1 z7 z8 z9 z10 z11 z12 z13 z14 z15 z16 z17 z18 z19 z20 z21 z22 z23 z96
  rintro l _ _ ⟨z0, z1, z7, z8, z9, z10, z11, z12, z13, z14, z15, z16, z17, z18, z19, z20, z21, z22, z23, z105, rfl, rfl⟩
  dsimp only [List.drop]
  simp (maxSteps := 1000000) (disch := first | assumption | omega | rfl | decide | simp only [fitsR, Bool.and_self]) [↓rules, rules, ↓rulesDp, rulesDq, lit_u64, Int.ofNat_inj, stops, q_int, q_bool, q_S_int, q_forest_Forest, z0, z1, z7, z8, z9, z10, z11, z12, z13, z14, z15, z16, z17, z18, z19, z20, z21, z22, z23, z105, hg11]
  refine rcall_spec (forest_Below va u i _ _ k11.dom hl2 (ha.ext (k11.ext hdom))) rfl (fun _ h => h.elim) rfl fun V12 h12 m12 ⟨rV12, q12⟩ => ?_
  have k12 := k11.trans q12
  have l12 := q12.le
  have hg12 : h12 n1 = some (.row [va] true) := by rw [q12.same _ (by omega)]; exact hg11
  have hy12_2 : h12 m2 = some (.row [V2] true) := by rw [q12.same _ (by omega)]; exact hy11_2
  have hy12_4 : h12 m4 = some (.row [V4] true) := by rw [q12.same _ (by omega)]; exact hy11_4
  have hy12_6 : h12 m6 = some (.row [V6] true) := by rw [q12.same _ (by omega)]; exact hy11_6
  have hy12_8 : h12 m8 = some (.row [V8] true) := by rw [q12.same _ (by omega)]; exact hy11_8
  have rs12_2 := rs11_2.kept k11.dom q12
  have rs12_3 := rs11_3.kept k11.dom q12
  have rs12_4 := rs11_4.kept k11.dom q12
  have rs12_5 := rs11_5.kept k11.dom q12
  have rs12_6 := rs11_6.kept k11.dom q12
  have rs12_7 := rs11_7.kept k11.dom q12
  have rs12_8 := rs11_8.kept k11.dom q12
  have rs12_9 := rs11_9.kept k11.dom q12
  simp (maxSteps := 1000000) (disch := first | assumption | omega | rfl | decide | simp only [fitsR, Bool.and_self]) [↓rules, rules, ↓rulesDp, rulesDq, lit_u64, Int.ofNat_inj, stops, q_int, q_bool, q_S_int, q_forest_Forest, z0, z1, z7, z8, z9, z10, z11, z12, z13, z14, z15, z16, z17, z18, z19, z20, z21, z22, z23]
  refine rcall_spec (ref_Below va u i _ _ k12.dom hl2 (ha.ext (k12.ext hdom))) rfl (fun _ h => h.elim) rfl fun V13 h13 m13 ⟨rV13, q13⟩ => ?_
  have k13 := k12.trans q13
  have l13 := q13.le
  have hg13 : h13 n1 = some (.row [va] true) := by rw [q13.same _ (by omega)]; exact hg12
  have hy13_2 : h13 m2 = some (.row [V2] true) := by rw [q13.same _ (by omega)]; exact hy12_2
  have hy13_4 : h13 m4 = some (.row [V4] true) := by rw [q13.same _ (by omega)]; exact hy12_4
  have hy13_6 : h13 m6 = some (.row [V6] true) := by rw [q13.same _ (by omega)]; exact hy12_6
  have hy13_8 : h13 m8 = some (.row [V8] true) := by rw [q13.same _ (by omega)]; exact hy12_8
  have rs13_2 := rs12_2.kept k12.dom q13
  have rs13_3 := rs12_3.kept k12.dom q13
  have rs13_4 := rs12_4.kept k12.dom q13
  have rs13_5 := rs12_5.kept k12.dom q13
  have rs13_6 := rs12_6.kept k12.dom q13
  have rs13_7 := rs12_7.kept k12.dom q13
  have rs13_8 := rs12_8.kept k12.dom q13
  have rs13_9 := rs12_9.kept k12.dom q13
  have rw12 := rV12.kept k12.dom q13
  simp (maxSteps := 1000000) (disch := first | assumption | omega | rfl | decide | simp only [fitsR, Bool.and_self]) [↓rules, rules, ↓rulesDp, rulesDq, lit_u64, Int.ofNat_inj, stops, q_int, q_bool, q_S_int, q_forest_Forest, z0, z1, z7, z8, z9, z10, z11, z12, z13, z14, z15, z16, z17, z18, z19, z20, z21, z22, z23]
  refine rcall_quiet rfl (intsI V12 V13 (belS u i) (belS u i) _ _ (by have := belS_len u i; omega) (by have := belS_len u i; omega) rw12.rd rV13.rd) ?_
  rw [show decide ((belS u i) = (belS u i)) = true by simp]
  refine rrun_cut 1 (K1 := fun l g3 n3 => YtfcbhgiccgommaaAbs.look 0 l = va ∧ YtfcbhgiccgommaaAbs.look 1 l = .int .i64 i ∧ YtfcbhgiccgommaaAbs.look 7 l = .pointer (some ⟨n1, 0, none⟩) ∧ YtfcbhgiccgommaaAbs.look 8 l = .pointer (some ⟨m2, 0, none⟩) ∧ YtfcbhgiccgommaaAbs.look 9 l = .bool (addOk u i k) ∧ YtfcbhgiccgommaaAbs.look 10 l = V3 ∧ YtfcbhgiccgommaaAbs.look 11 l = .bool (addOk u i k) ∧ YtfcbhgiccgommaaAbs.look 12 l = .pointer (some ⟨m4, 0, none⟩) ∧ YtfcbhgiccgommaaAbs.look 13 l = .bool (mayF u i) ∧ YtfcbhgiccgommaaAbs.look 14 l = V5 ∧ YtfcbhgiccgommaaAbs.look 15 l = .bool (mayF u i) ∧ YtfcbhgiccgommaaAbs.look 16 l = .pointer (some ⟨m6, 0, none⟩) ∧ YtfcbhgiccgommaaAbs.look 17 l = .bool (moveOk u i k) ∧ YtfcbhgiccgommaaAbs.look 18 l = V7 ∧ YtfcbhgiccgommaaAbs.look 19 l = .bool (moveOk u i k) ∧ YtfcbhgiccgommaaAbs.look 20 l = .pointer (some ⟨m8, 0, none⟩) ∧ YtfcbhgiccgommaaAbs.look 21 l = .bool (mayF u i) ∧ YtfcbhgiccgommaaAbs.look 22 l = V9 ∧ YtfcbhgiccgommaaAbs.look 23 l = .bool (mayF u i) ∧ YtfcbhgiccgommaaAbs.look 114 l = .bool true ∧ h13 = g3 ∧ m13 = n3) ?_ ?_
  · dsimp only [List.take]
    simp (maxSteps := 1000000) (disch := first | assumption | omega | rfl | decide | simp only [fitsR, Bool.and_self]) [↓rules, rules, ↓rulesDp, rulesDq, lit_u64, Int.ofNat_inj, stops, q_int, q_bool, q_S_int, q_forest_Forest, z0, z1, z7, z8, z9, z10, z11, z12, z13, z14, z15, z16, z17, z18, z19, z20, z21, z22, z23]
  clear z0 z1 z7 z8 z9 z10 z11 z12 z13 z14 z15 z16 z17 z18 z19 z20 z21 z22 z23 z105
  rintro l _ _ ⟨z0, z1, z7, z8, z9, z10, z11, z12, z13, z14, z15, z16, z17, z18, z19, z20, z21, z22, z23, z114, rfl, rfl⟩
  dsimp only [List.drop]
  simp (maxSteps := 1000000) (disch := first | assumption | omega | rfl | decide | simp only [fitsR, Bool.and_self]) [↓rules, rules, ↓rulesDp, rulesDq, lit_u64, Int.ofNat_inj, stops, q_int, q_bool, q_S_int, q_forest_Forest, z0, z1, z7, z8, z9, z10, z11, z12, z13, z14, z15, z16, z17, z18, z19, z20, z21, z22, z23, z114, hg13]
  refine rcall_spec (forest_Order va u  _ _ k13.dom hl2 (ha.ext (k13.ext hdom))) rfl (fun _ h => h.elim) rfl fun V14 h14 m14 ⟨rV14, q14⟩ => ?_
  have k14 := k13.trans q14
  have l14 := q14.le
  have hg14 : h14 n1 = some (.row [va] true) := by rw [q14.same _ (by omega)]; exact hg13
  have hy14_2 : h14 m2 = some (.row [V2] true) := by rw [q14.same _ (by omega)]; exact hy13_2
  have hy14_4 : h14 m4 = some (.row [V4] true) := by rw [q14.same _ (by omega)]; exact hy13_4
  have hy14_6 : h14 m6 = some (.row [V6] true) := by rw [q14.same _ (by omega)]; exact hy13_6
  have hy14_8 : h14 m8 = some (.row [V8] true) := by rw [q14.same _ (by omega)]; exact hy13_8
  have rs14_2 := rs13_2.kept k13.dom q14
  have rs14_3 := rs13_3.kept k13.dom q14
  have rs14_4 := rs13_4.kept k13.dom q14
  have rs14_5 := rs13_5.kept k13.dom q14
  have rs14_6 := rs13_6.kept k13.dom q14
  have rs14_7 := rs13_7.kept k13.dom q14
  have rs14_8 := rs13_8.kept k13.dom q14
  have rs14_9 := rs13_9.kept k13.dom q14
  simp (maxSteps := 1000000) (disch := first | assumption | omega | rfl | decide | simp only [fitsR, Bool.and_self]) [↓rules, rules, ↓rulesDp, rulesDq, lit_u64, Int.ofNat_inj, stops, q_int, q_bool, q_S_int, q_forest_Forest, z0, z1, z7, z8, z9, z10, z11, z12, z13, z14, z15, z16, z17, z18, z19, z20, z21, z22, z23]
  refine rcall_spec (ref_Order va u  _ _ k14.dom hl (ha.ext (k14.ext hdom))) rfl (fun _ h => h.elim) rfl fun V15 h15 m15 ⟨rV15, q15⟩ => ?_
  have k15 := k14.trans q15
  have l15 := q15.le
  have hg15 : h15 n1 = some (.row [va] true) := by rw [q15.same _ (by omega)]; exact hg14
  have hy15_2 : h15 m2 = some (.row [V2] true) := by rw [q15.same _ (by omega)]; exact hy14_2
  have hy15_4 : h15 m4 = some (.row [V4] true) := by rw [q15.same _ (by omega)]; exact hy14_4
  have hy15_6 : h15 m6 = some (.row [V6] true) := by rw [q15.same _ (by omega)]; exact hy14_6
  have hy15_8 : h15 m8 = some (.row [V8] true) := by rw [q15.same _ (by omega)]; exact hy14_8
  have rs15_2 := rs14_2.kept k14.dom q15
  have rs15_3 := rs14_3.kept k14.dom q15
  have rs15_4 := rs14_4.kept k14.dom q15
  have rs15_5 := rs14_5.kept k14.dom q15
  have rs15_6 := rs14_6.kept k14.dom q15
  have rs15_7 := rs14_7.kept k14.dom q15
  have rs15_8 := rs14_8.kept k14.dom q15
  have rs15_9 := rs14_9.kept k14.dom q15
  have rw14 := rV14.kept k14.dom q15
  simp (maxSteps := 1000000) (disch := first | assumption | omega | rfl | decide | simp only [fitsR, Bool.and_self]) [↓rules, rules, ↓rulesDp, rulesDq, lit_u64, Int.ofNat_inj, stops, q_int, q_bool, q_S_int, q_forest_Forest, z0, z1, z7, z8, z9, z10, z11, z12, z13, z14, z15, z16, z17, z18, z19, z20, z21, z22, z23]
  refine rcall_quiet rfl (intsI V14 V15 (ordS u) (ordS u) _ _ (by have := ordS_len u; omega) (by have := ordS_len u; omega) rw14.rd rV15.rd) ?_
  rw [show decide ((ordS u) = (ordS u)) = true by simp]
  refine rrun_cut 1 (K1 := fun l g3 n3 => YtfcbhgiccgommaaAbs.look 0 l = va ∧ YtfcbhgiccgommaaAbs.look 1 l = .int .i64 i ∧ YtfcbhgiccgommaaAbs.look 7 l = .pointer (some ⟨n1, 0, none⟩) ∧ YtfcbhgiccgommaaAbs.look 8 l = .pointer (some ⟨m2, 0, none⟩) ∧ YtfcbhgiccgommaaAbs.look 9 l = .bool (addOk u i k) ∧ YtfcbhgiccgommaaAbs.look 10 l = V3 ∧ YtfcbhgiccgommaaAbs.look 11 l = .bool (addOk u i k) ∧ YtfcbhgiccgommaaAbs.look 12 l = .pointer (some ⟨m4, 0, none⟩) ∧ YtfcbhgiccgommaaAbs.look 13 l = .bool (mayF u i) ∧ YtfcbhgiccgommaaAbs.look 14 l = V5 ∧ YtfcbhgiccgommaaAbs.look 15 l = .bool (mayF u i) ∧ YtfcbhgiccgommaaAbs.look 16 l = .pointer (some ⟨m6, 0, none⟩) ∧ YtfcbhgiccgommaaAbs.look 17 l = .bool (moveOk u i k) ∧ YtfcbhgiccgommaaAbs.look 18 l = V7 ∧ YtfcbhgiccgommaaAbs.look 19 l = .bool (moveOk u i k) ∧ YtfcbhgiccgommaaAbs.look 20 l = .pointer (some ⟨m8, 0, none⟩) ∧ YtfcbhgiccgommaaAbs.look 21 l = .bool (mayF u i) ∧ YtfcbhgiccgommaaAbs.look 22 l = V9 ∧ YtfcbhgiccgommaaAbs.look 23 l = .bool (mayF u i) ∧ YtfcbhgiccgommaaAbs.look 121 l = .bool true ∧ h15 = g3 ∧ m15 = n3) ?_ ?_
  · dsimp only [List.take]
    simp (maxSteps := 1000000) (disch := first | assumption | omega | rfl | decide | simp only [fitsR, Bool.and_self]) [↓rules, rules, ↓rulesDp, rulesDq, lit_u64, Int.ofNat_inj, stops, q_int, q_bool, q_S_int, q_forest_Forest, z0, z1, z7, z8, z9, z10, z11, z12, z13, z14, z15, z16, z17, z18, z19, z20, z21, z22, z23]
  clear z0 z1 z7 z8 z9 z10 z11 z12 z13 z14 z15 z16 z17 z18 z19 z20 z21 z22 z23 z114
  rintro l _ _ ⟨z0, z1, z7, z8, z9, z10, z11, z12, z13, z14, z15, z16, z17, z18, z19, z20, z21, z22, z23, z121, rfl, rfl⟩
  dsimp only [List.drop]
  have hb2 : (addOk u i k == addOk u i k) = true := by simp
  simp (maxSteps := 1000000) (disch := first | assumption | omega | rfl | decide | simp only [fitsR, Bool.and_self]) [↓rules, rules, ↓rulesDp, rulesDq, lit_u64, Int.ofNat_inj, stops, q_int, q_bool, q_S_int, q_forest_Forest, z0, z1, z7, z8, z9, z10, z11, z12, z13, z14, z15, z16, z17, z18, z19, z20, z21, z22, z23, z121, bin_eql_bool tu_bool, hb2, hy15_2]
  refine rcall_quiet rfl (intsI V2 V3 (if addOk u i k = true then addF u i k else []) (if addOk u i k = true then addF u i k else []) _ _ (by split <;> simp <;> omega) (by split <;> simp <;> omega) rs15_2.rd rs15_3.rd) ?_
  rw [show decide ((if addOk u i k = true then addF u i k else []) = (if addOk u i k = true then addF u i k else [])) = true by simp]
  refine rrun_cut 1 (K1 := fun l g3 n3 => YtfcbhgiccgommaaAbs.look 0 l = va ∧ YtfcbhgiccgommaaAbs.look 1 l = .int .i64 i ∧ YtfcbhgiccgommaaAbs.look 7 l = .pointer (some ⟨n1, 0, none⟩) ∧ YtfcbhgiccgommaaAbs.look 8 l = .pointer (some ⟨m2, 0, none⟩) ∧ YtfcbhgiccgommaaAbs.look 9 l = .bool (addOk u i k) ∧ YtfcbhgiccgommaaAbs.look 10 l = V3 ∧ YtfcbhgiccgommaaAbs.look 11 l = .bool (addOk u i k) ∧ YtfcbhgiccgommaaAbs.look 12 l = .pointer (some ⟨m4, 0, none⟩) ∧ YtfcbhgiccgommaaAbs.look 13 l = .bool (mayF u i) ∧ YtfcbhgiccgommaaAbs.look 14 l = V5 ∧ YtfcbhgiccgommaaAbs.look 15 l = .bool (mayF u i) ∧ YtfcbhgiccgommaaAbs.look 16 l = .pointer (some ⟨m6, 0, none⟩) ∧ YtfcbhgiccgommaaAbs.look 17 l = .bool (moveOk u i k) ∧ YtfcbhgiccgommaaAbs.look 18 l = V7 ∧ YtfcbhgiccgommaaAbs.look 19 l = .bool (moveOk u i k) ∧ YtfcbhgiccgommaaAbs.look 20 l = .pointer (some ⟨m8, 0, none⟩) ∧ YtfcbhgiccgommaaAbs.look 21 l = .bool (mayF u i) ∧ YtfcbhgiccgommaaAbs.look 22 l = V9 ∧ YtfcbhgiccgommaaAbs.look 23 l = .bool (mayF u i) ∧ YtfcbhgiccgommaaAbs.look 132 l = .bool true ∧ h15 = g3 ∧ m15 = n3) ?_ ?_
  · dsimp only [List.take]
    simp (maxSteps := 1000000) (disch := first | assumption | omega | rfl | decide | simp only [fitsR, Bool.and_self]) [↓rules, rules, ↓rulesDp, rulesDq, lit_u64, Int.ofNat_inj, stops, q_int, q_bool, q_S_int, q_forest_Forest, z0, z1, z7, z8, z9, z10, z11, z12, z13, z14, z15, z16, z17, z18, z19, z20, z21, z22, z23]
  clear z0 z1 z7 z8 z9 z10 z11 z12 z13 z14 z15 z16 z17 z18 z19 z20 z21 z22 z23 z121
  rintro l _ _ ⟨z0, z1, z7, z8, z9, z10, z11, z12, z13, z14, z15, z16, z17, z18, z19, z20, z21, z22, z23, z132, rfl, rfl⟩
  dsimp only [List.drop]
  have hb4 : (mayF u i == mayF u i) = true := by simp
  simp (maxSteps := 1000000) (disch := first | assumption | omega | rfl | decide | simp only [fitsR, Bool.and_self]) [↓rules, rules, ↓rulesDp, rulesDq, lit_u64, Int.ofNat_inj, stops, q_int, q_bool, q_S_int, q_forest_Forest, z0, z1, z7, z8, z9, z10, z11, z12, z13, z14, z15, z16, z17, z18, z19, z20, z21, z22, z23, z132, bin_eql_bool tu_bool, hb4, hy15_4]
  refine rcall_quiet rfl (intsI V4 V5 (if mayF u i = true then dropF u i else []) (if mayF u i = true then dropF u i else []) _ _ (by split <;> simp <;> omega) (by split <;> simp <;> omega) rs15_4.rd rs15_5.rd) ?_
  rw [show decide ((if mayF u i = true then dropF u i else []) = (if mayF u i = true then dropF u i else [])) = true by simp]
  refine rrun_cut 1 (K1 := fun l g3 n3 => YtfcbhgiccgommaaAbs.look 0 l = va ∧ YtfcbhgiccgommaaAbs.look 1 l = .int .i64 i ∧ YtfcbhgiccgommaaAbs.look 7 l = .pointer (some ⟨n1, 0, none⟩) ∧ YtfcbhgiccgommaaAbs.look 8 l = .pointer (some ⟨m2, 0, none⟩) ∧ YtfcbhgiccgommaaAbs.look 9 l = .bool (addOk u i k) ∧ YtfcbhgiccgommaaAbs.look 10 l = V3 ∧ YtfcbhgiccgommaaAbs.look 11 l = .bool (addOk u i k) ∧ YtfcbhgiccgommaaAbs.look 12 l = .pointer (some ⟨m4, 0, none⟩) ∧ YtfcbhgiccgommaaAbs.look 13 l = .bool (mayF u i) ∧ YtfcbhgiccgommaaAbs.look 14 l = V5 ∧ YtfcbhgiccgommaaAbs.look 15 l = .bool (mayF u i) ∧ YtfcbhgiccgommaaAbs.look 16 l = .pointer (some ⟨m6, 0, none⟩) ∧ YtfcbhgiccgommaaAbs.look 17 l = .bool (moveOk u i k) ∧ YtfcbhgiccgommaaAbs.look 18 l = V7 ∧ YtfcbhgiccgommaaAbs.look 19 l = .bool (moveOk u i k) ∧ YtfcbhgiccgommaaAbs.look 20 l = .pointer (some ⟨m8, 0, none⟩) ∧ YtfcbhgiccgommaaAbs.look 21 l = .bool (mayF u i) ∧ YtfcbhgiccgommaaAbs.look 22 l = V9 ∧ YtfcbhgiccgommaaAbs.look 23 l = .bool (mayF u i) ∧ YtfcbhgiccgommaaAbs.look 143 l = .bool true ∧ h15 = g3 ∧ m15 = n3) ?_ ?_
  · dsimp only [List.take]
    simp (maxSteps := 1000000) (disch := first | assumption | omega | rfl | decide | simp only [fitsR, Bool.and_self]) [↓rules, rules, ↓rulesDp, rulesDq, lit_u64, Int.ofNat_inj, stops, q_int, q_bool, q_S_int, q_forest_Forest, z0, z1, z7, z8, z9, z10, z11, z12, z13, z14, z15, z16, z17, z18, z19, z20, z21, z22, z23]
  clear z0 z1 z7 z8 z9 z10 z11 z12 z13 z14 z15 z16 z17 z18 z19 z20 z21 z22 z23 z132
  rintro l _ _ ⟨z0, z1, z7, z8, z9, z10, z11, z12, z13, z14, z15, z16, z17, z18, z19, z20, z21, z22, z23, z143, rfl, rfl⟩
  dsimp only [List.drop]
  have hb6 : (moveOk u i k == moveOk u i k) = true := by simp
  simp (maxSteps := 1000000) (disch := first | assumption | omega | rfl | decide | simp only [fitsR, Bool.and_self]) [↓rules, rules, ↓rulesDp, rulesDq, lit_u64, Int.ofNat_inj, stops, q_int, q_bool, q_S_int, q_forest_Forest, z0, z1, z7, z8, z9, z10, z11, z12, z13, z14, z15, z16, z17, z18, z19, z20, z21, z22, z23, z143, bin_eql_bool tu_bool, hb6, hy15_6]
  refine rcall_quiet rfl (intsI V6 V7 (if moveOk u i k = true then moveF u i k else []) (if moveOk u i k = true then moveF u i k else []) _ _ (by split <;> simp <;> omega) (by split <;> simp <;> omega) rs15_6.rd rs15_7.rd) ?_
  rw [show decide ((if moveOk u i k = true then moveF u i k else []) = (if moveOk u i k = true then moveF u i k else [])) = true by simp]
  refine rrun_cut 1 (K1 := fun l g3 n3 => YtfcbhgiccgommaaAbs.look 0 l = va ∧ YtfcbhgiccgommaaAbs.look 1 l = .int .i64 i ∧ YtfcbhgiccgommaaAbs.look 7 l = .pointer (some ⟨n1, 0, none⟩) ∧ YtfcbhgiccgommaaAbs.look 8 l = .pointer (some ⟨m2, 0, none⟩) ∧ YtfcbhgiccgommaaAbs.look 9 l = .bool (addOk u i k) ∧ YtfcbhgiccgommaaAbs.look 10 l = V3 ∧ YtfcbhgiccgommaaAbs.look 11 l = .bool (addOk u i k) ∧ YtfcbhgiccgommaaAbs.look 12 l = .pointer (some ⟨m4, 0, none⟩) ∧ YtfcbhgiccgommaaAbs.look 13 l = .bool (mayF u i) ∧ YtfcbhgiccgommaaAbs.look 14 l = V5 ∧ YtfcbhgiccgommaaAbs.look 15 l = .bool (mayF u i) ∧ YtfcbhgiccgommaaAbs.look 16 l = .pointer (some ⟨m6, 0, none⟩) ∧ YtfcbhgiccgommaaAbs.look 17 l = .bool (moveOk u i k) ∧ YtfcbhgiccgommaaAbs.look 18 l = V7 ∧ YtfcbhgiccgommaaAbs.look 19 l = .bool (moveOk u i k) ∧ YtfcbhgiccgommaaAbs.look 20 l = .pointer (some ⟨m8, 0, none⟩) ∧ YtfcbhgiccgommaaAbs.look 21 l = .bool (mayF u i) ∧ YtfcbhgiccgommaaAbs.look 22 l = V9 ∧ YtfcbhgiccgommaaAbs.look 23 l = .bool (mayF u i) ∧ YtfcbhgiccgommaaAbs.look 154 l = .bool true ∧ h15 = g3 ∧ m15 = n3) ?_ ?_
  · dsimp only [List.take]
    simp (maxSteps := 1000000) (disch := first | assumption | omega | rfl | decide | simp only [fitsR, Bool.and_self]) [↓rules, rules, ↓rulesDp, rulesDq, lit_u64, Int.ofNat_inj, stops, q_int, q_bool, q_S_int, q_forest_Forest, z0, z1, z7, z8, z9, z10, z11, z12, z13, z14, z15, z16, z17, z18, z19, z20, z21, z22, z23]
  clear z0 z1 z7 z8 z9 z10 z11 z12 z13 z14 z15 z16 z17 z18 z19 z20 z21 z22 z23 z143
  rintro l _ _ ⟨z0, z1, z7, z8, z9, z10, z11, z12, z13, z14, z15, z16, z17, z18, z19, z20, z21, z22, z23, z154, rfl, rfl⟩
  dsimp only [List.drop]
  have hb8 : (mayF u i == mayF u i) = true := by simp
  simp (maxSteps := 1000000) (disch := first | assumption | omega | rfl | decide | simp only [fitsR, Bool.and_self]) [↓rules, rules, ↓rulesDp, rulesDq, lit_u64, Int.ofNat_inj, stops, q_int, q_bool, q_S_int, q_forest_Forest, z0, z1, z7, z8, z9, z10, z11, z12, z13, z14, z15, z16, z17, z18, z19, z20, z21, z22, z23, z154, bin_eql_bool tu_bool, hb8, hy15_8]
  refine rcall_quiet rfl (intsI V8 V9 (if mayF u i = true then pruneF u i else []) (if mayF u i = true then pruneF u i else []) _ _ (by split <;> simp <;> omega) (by split <;> simp <;> omega) rs15_8.rd rs15_9.rd) ?_
  rw [show decide ((if mayF u i = true then pruneF u i else []) = (if mayF u i = true then pruneF u i else [])) = true by simp]
  simp (maxSteps := 1000000) (disch := first | assumption | omega | rfl | decide | simp only [fitsR, Bool.and_self]) [↓rules, rules, ↓rulesDp, rulesDq, lit_u64, Int.ofNat_inj, stops, q_int, q_bool, q_S_int, q_forest_Forest]
  exact done_q hdom k15 rfl rfl
end Go.Proofs.Ytfcbhgiccgommaa.F10
