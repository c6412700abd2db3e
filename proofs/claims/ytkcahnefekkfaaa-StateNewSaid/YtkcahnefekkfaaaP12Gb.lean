/- Contracts of functions: what each one returns, and what it leaves. No statement is proved here. -/
import Derived.Test.YtkcahnefekkfaaaP12Ga
set_option linter.unusedVariables false
set_option linter.unusedSimpArgs false
set_option linter.unusedSectionVars false
namespace Go.Proofs.Ytkcahnefekkfaaa.F12G
open Go Go.Proofs Go.Proofs.YtkcahnefekkfaaaAbs
variable [Base]
set_option maxHeartbeats 8000000
set_option maxRecDepth 100000
/-! ### Room for slots -/
theorem ownerS_ge (ts : List Tg) (s : Int) : -1 ≤ ownerS ts s := (idxT_lt _ ts 0 (by omega)).2
/-- How many slots ahead of there, one behind the other, nobody has. -/
def runU (ts : List Tg) : Nat → Nat
  | 0 => 0
  | i + 1 => if ownerS ts i = -1 then runU ts i + 1 else 0
theorem runU_le (ts : List Tg) : ∀ i, runU ts i ≤ i
  | 0 => Nat.le_refl _
  | i + 1 => by
    have := runU_le ts i
    unfold runU
    split <;> omega
def gapI (ts : List Tg) (m M : Nat) : Option Nat := (List.range m).find? fun i => decide (runU ts (i + 1) = M)
theorem gapI_some {ts : List Tg} {m M i : Nat} (hi : i < m) (h : runU ts (i + 1) = M) (hb : ∀ j, j < i → runU ts (j + 1) ≠ M) : gapI ts m M = some i := by
  unfold gapI
  rw [List.find?_range_eq_some]
  exact ⟨by simpa using h, List.mem_range.2 hi, fun j hj => by simpa using hb j hj⟩
theorem gapI_none {ts : List Tg} {m M : Nat} (hb : ∀ j, j < m → runU ts (j + 1) ≠ M) : gapI ts m M = none := by
  unfold gapI
  rw [List.find?_range_eq_none]
  exact fun j hj => by simpa using hb j hj
def gapV (ts : List Tg) (m M : Nat) : Int × Bool := match gapI ts m M with
  | some i => ((i : Int) + 1 - M, true)
  | none => (0, false)
def gapS (a b c : Int) (ss : List Sl) (ts : List Tg) (bits : Int) : Int × Bool := if goodS a b c ss ts = true ∧ 1 ≤ bits ∧ bits ≤ 4 then gapV ts ss.length (2 ^ bits.toNat) else (0, false)
theorem state_Gap (a b c : Int) (VS VT : Value) (ss : List Sl) (ts : List Tg) (bits : Int) (g : AMem) (n : Nat) (hl : ss.length ≤ 100000) (hl2 : ts.length ≤ 100000) (hs : rdS g VS ss) (ht : rdG g VT ts) :
    FnC Try.prog f_state_Gap [sv a b c VS VT, .int .i64 bits] g n (fun _ => False) (.tuple #[.int .i64 (gapS a b c ss ts bits).1, .bool (gapS a b c ss ts bits).2]) g n := by
  refine fnC_of_rwp t_state_Gap hm rfl fun hdom => ?_
  have k1 : Kept g n (gset g n (some (rowS a b c VS VT))) (n + 1) := (by repeat first | exact Kept.refl hdom | refine Kept.new ?_ _ | refine Kept.drop ?_ (by omega) | refine Kept.put ?_ (by omega) (by omega) _ | refine Kept.skip ?_)
  have hs1 := hs.ext (k1.ext hdom)
  have ht1 := ht.ext (k1.ext hdom)
  have r0 : gset g n (some (rowS a b c VS VT)) n = some (rowS a b c VS VT) := by rw [gset, if_pos rfl]
  simp (maxSteps := 1000000) (disch := first | assumption | omega | rfl | decide | simp only [fitsR, Bool.and_self]) [↓rules, rules, ↓rulesDp, rulesDq, lit_u64, Int.ofNat_inj, stops, rc_state_Gap, q_int, q_bool, q_geo_Geo, q_S_state_Slot, q_S_thing_Thing, q_state_State, q_cap_Cap, q_state_Slot, q_uint64, q_A4_uint64, q_thing_Thing]
  generalize gset g n (some (rowS a b c VS VT)) = G at *
  refine rcall_quiet rfl (state_Good a b c VS VT ss ts _ _ hl hl2 hs1 ht1) ?_
  unfold gapS
  cases hgd : goodS a b c ss ts
  · rw [if_neg (by simp)]
    simp (maxSteps := 1000000) (disch := first | assumption | omega | rfl | decide | simp only [fitsR, Bool.and_self]) [↓rules, rules, ↓rulesDp, rulesDq, lit_u64, Int.ofNat_inj, stops, q_int, q_bool, q_geo_Geo, q_S_state_Slot, q_S_thing_Thing, q_state_State, q_cap_Cap, q_state_Slot, q_uint64, q_A4_uint64, q_thing_Thing]
    exact done_q hdom k1 rfl rfl
  by_cases c1 : bits < 1
  · rw [if_neg (by omega)]
    simp (maxSteps := 1000000) (disch := first | assumption | omega | rfl | decide | simp only [fitsR, Bool.and_self]) [↓rules, rules, ↓rulesDp, rulesDq, lit_u64, Int.ofNat_inj, stops, q_int, q_bool, q_geo_Geo, q_S_state_Slot, q_S_thing_Thing, q_state_State, q_cap_Cap, q_state_Slot, q_uint64, q_A4_uint64, q_thing_Thing, c1]
    exact done_q hdom k1 rfl rfl
  by_cases c2 : 4 < bits
  · rw [if_neg (by omega)]
    simp (maxSteps := 1000000) (disch := first | assumption | omega | rfl | decide | simp only [fitsR, Bool.and_self]) [↓rules, rules, ↓rulesDp, rulesDq, lit_u64, Int.ofNat_inj, stops, q_int, q_bool, q_geo_Geo, q_S_state_Slot, q_S_thing_Thing, q_state_State, q_cap_Cap, q_state_Slot, q_uint64, q_A4_uint64, q_thing_Thing, c1, c2]
    exact done_q hdom k1 rfl rfl
  rw [if_pos ⟨rfl, by omega, by omega⟩]
  obtain ⟨_, _, _, _, hth, _⟩ := goodS_parts hgd
  have hb := things_node hth
  have hsl := fun (t : TypeId) (xo yo : Operand) => bin_shl (P := Try.prog) (t := t) (xo := xo) (yo := yo) (k := .i64) (k' := .i64) (a := 1) (show 0 ≤ bits by omega)
  rw [shl_bits (by omega) (by omega)] at hsl
  obtain ⟨M, hM⟩ : ∃ M : Nat, M = 2 ^ bits.toNat := ⟨_, rfl⟩
  have hM2 : 1 ≤ M := by rw [hM]; exact Nat.one_le_two_pow
  have hM16 : M ≤ 16 := by rw [hM]; exact Nat.pow_le_pow_right (n := 2) (j := 4) (by omega) (by omega)
  rw [← hM] at hsl ⊢
  obtain ⟨xa, xe, hVS⟩ := hs.form
  have r0' := r0
  rw [hVS] at r0'
  simp (maxSteps := 1000000) (disch := first | assumption | omega | rfl | decide | simp only [fitsR, Bool.and_self]) [↓rules, rules, ↓rulesDp, rulesDq, lit_u64, Int.ofNat_inj, stops, q_int, q_bool, q_geo_Geo, q_S_state_Slot, q_S_thing_Thing, q_state_State, q_cap_Cap, q_state_Slot, q_uint64, q_A4_uint64, q_thing_Thing, c1, c2, r0']
  refine rwp_loop (fun j l g' n' => ∃ i, j = ss.length - i ∧ i ≤ ss.length ∧ g' = G ∧ n' = n + 1 ∧ (∀ j, j < i → runU ts (j + 1) ≠ M) ∧ l = [(1, .int .i64 bits), (2, .pointer (some ⟨n, 0, none⟩)), (6, .int .i64 (runU ts i)), (21, .int .i64 ss.length), (22, .int .i64 i)]) ?_ (k := ss.length) ?_
  · rintro j l g' n' ⟨i, rfl, hi, rfl, rfl, hno, rfl⟩
    by_cases hlt : (i : Int) < (ss.length : Int)
    case neg =>
      have : i = ss.length := by omega
      subst this
      rw [show gapV ts ss.length M = (0, false) by unfold gapV; rw [gapI_none hno]]
      simp (maxSteps := 1000000) (disch := first | assumption | omega | rfl | decide | simp only [fitsR, Bool.and_self]) [↓rules, rules, ↓rulesDp, rulesDq, lit_u64, Int.ofNat_inj, stops, rc_state_Gapl0, q_int, q_bool, q_geo_Geo, q_S_state_Slot, q_S_thing_Thing, q_state_State, q_cap_Cap, q_state_Slot, q_uint64, q_A4_uint64, q_thing_Thing, hlt]
      exact done_q hdom k1 rfl rfl
    have hlt1 : i < ss.length := by omega
    have hrl := runU_le ts i
    have w1 : IntKind.i64.wrap ((i : Int) + 1) = (i : Int) + 1 := wrap_i64 (by omega) (by omega)
    have w2 : IntKind.i64.wrap ((runU ts i : Int) + 1) = (runU ts i : Int) + 1 := wrap_i64 (by omega) (by omega)
    have hru : runU ts (i + 1) = if ownerS ts i = -1 then runU ts i + 1 else 0 := rfl
    simp (maxSteps := 1000000) (disch := first | assumption | omega | rfl | decide | simp only [fitsR, Bool.and_self]) [↓rules, rules, ↓rulesDp, rulesDq, lit_u64, Int.ofNat_inj, stops, rc_state_Gapl0, q_int, q_bool, q_geo_Geo, q_S_state_Slot, q_S_thing_Thing, q_state_State, q_cap_Cap, q_state_Slot, q_uint64, q_A4_uint64, q_thing_Thing, hlt, r0, w2]
    refine rcall_quiet rfl (state_owner a b c VS VT ts i _ _ hl2 ht1 hb) ?_
    by_cases co : ownerS ts i = -1
    · rw [if_pos co] at hru
      by_cases ce : runU ts i + 1 = M
      · have hgi := gapI_some hlt1 (hru.trans ce) hno
        have ce' : (runU ts i : Int) + 1 = M := by omega
        have w3 : IntKind.i64.wrap ((i : Int) + 1 - M) = (i : Int) + 1 - M := wrap_i64 (by omega) (by omega)
        rw [show gapV ts ss.length M = ((i : Int) + 1 - M, true) by unfold gapV; rw [hgi]]
        simp (maxSteps := 1000000) (disch := first | assumption | omega | rfl | decide | simp only [fitsR, Bool.and_self]) [↓rules, rules, ↓rulesDp, rulesDq, lit_u64, Int.ofNat_inj, stops, q_int, q_bool, q_geo_Geo, q_S_state_Slot, q_S_thing_Thing, q_state_State, q_cap_Cap, q_state_Slot, q_uint64, q_A4_uint64, q_thing_Thing, co, hsl, ce', w1, w3]
        exact done_q hdom k1 rfl rfl
      · have ce' : ¬ (runU ts i : Int) + 1 = M := by omega
        simp (maxSteps := 1000000) (disch := first | assumption | omega | rfl | decide | simp only [fitsR, Bool.and_self]) [↓rules, rules, ↓rulesDp, rulesDq, lit_u64, Int.ofNat_inj, stops, q_int, q_bool, q_geo_Geo, q_S_state_Slot, q_S_thing_Thing, q_state_State, q_cap_Cap, q_state_Slot, q_uint64, q_A4_uint64, q_thing_Thing, co, hsl, ce', w1]
        exact ⟨ss.length - (i + 1), by omega, i + 1, rfl, by omega, fun j hj => by
          by_cases hji : j = i
          · subst hji; rw [hru]; exact ce
          · exact hno j (by omega), by rw [hru]; omega⟩
    · rw [if_neg co] at hru
      have ce' : ¬ (0 : Int) = M := by omega
      simp (maxSteps := 1000000) (disch := first | assumption | omega | rfl | decide | simp only [fitsR, Bool.and_self]) [↓rules, rules, ↓rulesDp, rulesDq, lit_u64, Int.ofNat_inj, stops, q_int, q_bool, q_geo_Geo, q_S_state_Slot, q_S_thing_Thing, q_state_State, q_cap_Cap, q_state_Slot, q_uint64, q_A4_uint64, q_thing_Thing, co, hsl, ce', w1]
      exact ⟨ss.length - (i + 1), by omega, i + 1, rfl, by omega, fun j hj => by
          by_cases hji : j = i
          · subst hji; rw [hru]; omega
          · exact hno j (by omega), by rw [hru]; omega⟩
  · exact ⟨0, by simp, by simp, rfl, rfl, fun j hj => by omega, by rfl⟩
def ownV (a b c : Int) (ss : List Sl) (ts : List Tg) (s : Int) : Int := if goodS a b c ss ts = true ∧ 0 ≤ s ∧ s < ss.length then ownerS ts s else -1
theorem state_Owner (a b c : Int) (VS VT : Value) (ss : List Sl) (ts : List Tg) (s : Int) (g : AMem) (n : Nat) (hl : ss.length ≤ 100000) (hl2 : ts.length ≤ 100000) (hs : rdS g VS ss) (ht : rdG g VT ts) :
    FnC Try.prog f_state_Owner [sv a b c VS VT, .int .i64 s] g n (fun _ => False) (.int .i64 (ownV a b c ss ts s)) g n := by
  refine fnC_of_rwp t_state_Owner hm rfl fun hdom => ?_
  have k1 : Kept g n (gset g n (some (rowS a b c VS VT))) (n + 1) := (by repeat first | exact Kept.refl hdom | refine Kept.new ?_ _ | refine Kept.drop ?_ (by omega) | refine Kept.put ?_ (by omega) (by omega) _ | refine Kept.skip ?_)
  have hs1 := hs.ext (k1.ext hdom)
  have ht1 := ht.ext (k1.ext hdom)
  have r0 : gset g n (some (rowS a b c VS VT)) n = some (rowS a b c VS VT) := by rw [gset, if_pos rfl]
  simp (maxSteps := 1000000) (disch := first | assumption | omega | rfl | decide | simp only [fitsR, Bool.and_self]) [↓rules, rules, ↓rulesDp, rulesDq, lit_u64, Int.ofNat_inj, stops, rc_state_Owner, q_int, q_bool, q_geo_Geo, q_S_state_Slot, q_S_thing_Thing, q_state_State, q_cap_Cap, q_state_Slot, q_uint64, q_A4_uint64, q_thing_Thing]
  generalize gset g n (some (rowS a b c VS VT)) = G at *
  refine rcall_quiet rfl (state_Good a b c VS VT ss ts _ _ hl hl2 hs1 ht1) ?_
  unfold ownV
  cases hgd : goodS a b c ss ts
  · rw [if_neg (by simp)]
    simp (maxSteps := 1000000) (disch := first | assumption | omega | rfl | decide | simp only [fitsR, Bool.and_self]) [↓rules, rules, ↓rulesDp, rulesDq, lit_u64, Int.ofNat_inj, stops, q_int, q_bool, q_geo_Geo, q_S_state_Slot, q_S_thing_Thing, q_state_State, q_cap_Cap, q_state_Slot, q_uint64, q_A4_uint64, q_thing_Thing]
    exact done_q hdom k1 rfl rfl
  obtain ⟨xa, xe, hVS⟩ := hs.form
  have r0' := r0
  rw [hVS] at r0'
  by_cases c1 : s < 0
  · rw [if_neg (by omega)]
    simp (maxSteps := 1000000) (disch := first | assumption | omega | rfl | decide | simp only [fitsR, Bool.and_self]) [↓rules, rules, ↓rulesDp, rulesDq, lit_u64, Int.ofNat_inj, stops, q_int, q_bool, q_geo_Geo, q_S_state_Slot, q_S_thing_Thing, q_state_State, q_cap_Cap, q_state_Slot, q_uint64, q_A4_uint64, q_thing_Thing, c1]
    exact done_q hdom k1 rfl rfl
  by_cases c2 : (ss.length : Int) ≤ s
  · rw [if_neg (by omega)]
    simp (maxSteps := 1000000) (disch := first | assumption | omega | rfl | decide | simp only [fitsR, Bool.and_self]) [↓rules, rules, ↓rulesDp, rulesDq, lit_u64, Int.ofNat_inj, stops, q_int, q_bool, q_geo_Geo, q_S_state_Slot, q_S_thing_Thing, q_state_State, q_cap_Cap, q_state_Slot, q_uint64, q_A4_uint64, q_thing_Thing, c1, c2, r0']
    exact done_q hdom k1 rfl rfl
  rw [if_pos ⟨rfl, by omega, by omega⟩]
  obtain ⟨_, _, _, _, hth, _⟩ := goodS_parts hgd
  have hb := things_node hth
  simp (maxSteps := 1000000) (disch := first | assumption | omega | rfl | decide | simp only [fitsR, Bool.and_self]) [↓rules, rules, ↓rulesDp, rulesDq, lit_u64, Int.ofNat_inj, stops, q_int, q_bool, q_geo_Geo, q_S_state_Slot, q_S_thing_Thing, q_state_State, q_cap_Cap, q_state_Slot, q_uint64, q_A4_uint64, q_thing_Thing, c1, c2, r0']
  rw [← hVS]
  refine rcall_quiet rfl (state_owner a b c VS VT ts s _ _ hl2 ht1 hb) ?_
  simp (maxSteps := 1000000) (disch := first | assumption | omega | rfl | decide | simp only [fitsR, Bool.and_self]) [↓rules, rules, ↓rulesDp, rulesDq, lit_u64, Int.ofNat_inj, stops, q_int, q_bool, q_geo_Geo, q_S_state_Slot, q_S_thing_Thing, q_state_State, q_cap_Cap, q_state_Slot, q_uint64, q_A4_uint64, q_thing_Thing]
  exact done_q hdom k1 rfl rfl
end Go.Proofs.Ytkcahnefekkfaaa.F12G

namespace Go.Proofs.Ytkcahnefekkfaaa.F12G
open Go Go.Proofs Go.Proofs.YtkcahnefekkfaaaAbs
variable [Base]
set_option maxHeartbeats 8000000
set_option maxRecDepth 100000
theorem shl_u {b : Int} (p2 : 1 ≤ b) (p3 : b ≤ 4) : IntKind.i64.wrap (1 * 2 ^ (min b.toNat IntKind.i64.bits)) = ((2 ^ b.toNat : Nat) : Int) := shl_bits (by omega) p3
theorem stateGaps (a b c : Int) (VS : Value) (ss : List Sl) (VT : Value) (ts : List Tg) (bits : Int) (g : AMem) (n : Nat) (hdom : ∀ i, g i ≠ none → i < n)
    (hs : rdS g VS ss) (ht : rdG g VT ts) :
    FnC Try.prog f_reevelaw12_StateGaps [sv a b c VS VT, .int .i64 bits] g n (fun _ => False) (.bool true) g n := by
  refine fnC_of_rwp t_reevelaw12_StateGaps hm rfl fun hdom => ?_
  have k1 : Kept g n (gset g n (some (rowS a b c VS VT))) (n + 1) := (by repeat first | exact Kept.refl hdom | refine Kept.new ?_ _ | refine Kept.drop ?_ (by omega) | refine Kept.put ?_ (by omega) (by omega) _ | refine Kept.skip ?_)
  have hs1 := hs.ext (k1.ext hdom)
  have ht1 := ht.ext (k1.ext hdom)
  have r0 : gset g n (some (rowS a b c VS VT)) n = some (rowS a b c VS VT) := by rw [gset, if_pos rfl]
  simp (maxSteps := 1000000) (disch := first | assumption | omega | rfl | decide | simp only [fitsR, Bool.and_self]) [↓rules, rules, ↓rulesDp, rulesDq, lit_u64, Int.ofNat_inj, stops, rc_reevelaw12_StateGaps, q_int, q_bool, q_geo_Geo, q_S_state_Slot, q_S_thing_Thing, q_state_State, q_cap_Cap, q_state_Slot, q_uint, q_uint64, q_A4_uint64, q_thing_Thing]
  generalize gset g n (some (rowS a b c VS VT)) = G at *
  refine rcall_quiet rfl (awake12 _ _) ?_
  simp (maxSteps := 1000000) (disch := first | assumption | omega | rfl | decide | simp only [fitsR, Bool.and_self]) [↓rules, rules, ↓rulesDp, rulesDq, lit_u64, Int.ofNat_inj, stops, q_int, q_bool, q_geo_Geo, q_S_state_Slot, q_S_thing_Thing, q_state_State, q_cap_Cap, q_state_Slot, q_uint, q_uint64, q_A4_uint64, q_thing_Thing, r0]
  refine rcall_quiet rfl (law_heavy a b c VS VT ss ts _ _ hs1 ht1) ?_
  cases hv : hvy ss ts
  case true =>
    simp (maxSteps := 1000000) (disch := first | assumption | omega | rfl | decide | simp only [fitsR, Bool.and_self]) [↓rules, rules, ↓rulesDp, rulesDq, lit_u64, Int.ofNat_inj, stops, q_int, q_bool, q_geo_Geo, q_S_state_Slot, q_S_thing_Thing, q_state_State, q_cap_Cap, q_state_Slot, q_uint, q_uint64, q_A4_uint64, q_thing_Thing]
    exact done_q hdom k1 rfl rfl
  obtain ⟨ls, lt⟩ := hvy_lens hv
  simp (maxSteps := 1000000) (disch := first | assumption | omega | rfl | decide | simp only [fitsR, Bool.and_self]) [↓rules, rules, ↓rulesDp, rulesDq, lit_u64, Int.ofNat_inj, stops, q_int, q_bool, q_geo_Geo, q_S_state_Slot, q_S_thing_Thing, q_state_State, q_cap_Cap, q_state_Slot, q_uint, q_uint64, q_A4_uint64, q_thing_Thing, r0]
  refine rcall_quiet rfl (state_Good a b c VS VT ss ts _ _ (by omega) (by omega) hs1 ht1) ?_
  cases hgd : goodS a b c ss ts
  · simp (maxSteps := 1000000) (disch := first | assumption | omega | rfl | decide | simp only [fitsR, Bool.and_self]) [↓rules, rules, ↓rulesDp, rulesDq, lit_u64, Int.ofNat_inj, stops, q_int, q_bool, q_geo_Geo, q_S_state_Slot, q_S_thing_Thing, q_state_State, q_cap_Cap, q_state_Slot, q_uint, q_uint64, q_A4_uint64, q_thing_Thing]
    exact done_q hdom k1 rfl rfl
  simp (maxSteps := 1000000) (disch := first | assumption | omega | rfl | decide | simp only [fitsR, Bool.and_self]) [↓rules, rules, ↓rulesDp, rulesDq, lit_u64, Int.ofNat_inj, stops, q_int, q_bool, q_geo_Geo, q_S_state_Slot, q_S_thing_Thing, q_state_State, q_cap_Cap, q_state_Slot, q_uint, q_uint64, q_A4_uint64, q_thing_Thing, r0]
  refine rcall_quiet rfl (state_Gap a b c VS VT ss ts bits _ _ (by omega) (by omega) hs1 ht1) ?_
  unfold gapS
  by_cases c1 : bits < 1
  · rw [if_neg (by omega)]
    simp (maxSteps := 1000000) (disch := first | assumption | omega | rfl | decide | simp only [fitsR, Bool.and_self]) [↓rules, rules, ↓rulesDp, rulesDq, lit_u64, Int.ofNat_inj, stops, q_int, q_bool, q_geo_Geo, q_S_state_Slot, q_S_thing_Thing, q_state_State, q_cap_Cap, q_state_Slot, q_uint, q_uint64, q_A4_uint64, q_thing_Thing, c1]
    exact done_q hdom k1 rfl rfl
  by_cases c2 : 4 < bits
  · rw [if_neg (by omega)]
    simp (maxSteps := 1000000) (disch := first | assumption | omega | rfl | decide | simp only [fitsR, Bool.and_self]) [↓rules, rules, ↓rulesDp, rulesDq, lit_u64, Int.ofNat_inj, stops, q_int, q_bool, q_geo_Geo, q_S_state_Slot, q_S_thing_Thing, q_state_State, q_cap_Cap, q_state_Slot, q_uint, q_uint64, q_A4_uint64, q_thing_Thing, c1, c2]
    exact done_q hdom k1 rfl rfl
  rw [if_pos ⟨hgd, by omega, by omega⟩]
  have hsl := shl_u (b := bits) (by omega) (by omega)
  have wu : (((BitVec.ofInt 64 bits).toNat : Nat) : Int) = bits := by rw [BitVec.toNat_ofInt]; omega
  obtain ⟨M, hM⟩ : ∃ M : Nat, M = 2 ^ bits.toNat := ⟨_, rfl⟩
  have hM2 : 1 ≤ M := by rw [hM]; exact Nat.one_le_two_pow
  have hM16 : M ≤ 16 := by rw [hM]; exact Nat.pow_le_pow_right (n := 2) (j := 4) (by omega) (by omega)
  rw [← hM] at hsl ⊢
  have hsl2 : ∀ (t : TypeId) (xo yo : Operand), aBin Try.prog .shl t xo yo (.int .i64 1) (U (BitVec.ofInt 64 bits)) = some (.int .i64 M) := fun t xo yo => by
    have h := bin_shl (P := Try.prog) (t := t) (xo := xo) (yo := yo) (k := .i64) (k' := .u64) (a := 1) (b := (((BitVec.ofInt 64 bits).toNat : Nat) : Int)) (by omega)
    refine (show aBin Try.prog .shl t xo yo (.int .i64 1) (U (BitVec.ofInt 64 bits)) = aBin Try.prog .shl t xo yo (.int .i64 1) (.int .u64 (((BitVec.ofInt 64 bits).toNat : Nat) : Int)) from rfl).trans (h.trans ?_)
    rw [wu, hsl]
  obtain ⟨xa, xe, hVS⟩ := hs.form
  have r0' := r0
  rw [hVS] at r0'
  generalize hgv : gapV ts ss.length M = gv at *
  obtain ⟨gb, gk⟩ := gv
  dsimp only
  simp (maxSteps := 1000000) (disch := first | assumption | omega | rfl | decide | simp only [fitsR, Bool.and_self]) [↓rules, rules, ↓rulesDp, rulesDq, lit_u64, Int.ofNat_inj, stops, q_int, q_bool, q_geo_Geo, q_S_state_Slot, q_S_thing_Thing, q_state_State, q_cap_Cap, q_state_Slot, q_uint, q_uint64, q_A4_uint64, q_thing_Thing, c1, c2, conv_to_u64 tu_int tu_uint, hsl2]
  refine rwp_loop (fun j l g' n' => ∃ i, j = ss.length - i ∧ i ≤ ss.length ∧ g' = G ∧ n' = n + 1 ∧ (∀ j, j < i → runU ts (j + 1) ≠ M) ∧ l = [(2, .pointer (some ⟨n, 0, none⟩)), (5, .int .i64 gb), (6, .bool gk), (7, .int .i64 M), (8, .int .i64 (runU ts i)), (9, .int .i64 i)]) ?_ (k := ss.length) ?_
  · rintro j l g' n' ⟨i, rfl, hi, rfl, rfl, hno, rfl⟩
    by_cases hlt : (i : Int) < (ss.length : Int)
    case neg =>
      have : i = ss.length := by omega
      subst this
      rw [show gapV ts ss.length M = (0, false) by unfold gapV; rw [gapI_none hno]] at hgv
      cases hgv
      simp (maxSteps := 1000000) (disch := first | assumption | omega | rfl | decide | simp only [fitsR, Bool.and_self]) [↓rules, rules, ↓rulesDp, rulesDq, lit_u64, Int.ofNat_inj, stops, rc_reevelaw12_StateGapsl0, q_int, q_bool, q_geo_Geo, q_S_state_Slot, q_S_thing_Thing, q_state_State, q_cap_Cap, q_state_Slot, q_uint, q_uint64, q_A4_uint64, q_thing_Thing, r0', hlt]
      exact done_q hdom k1 rfl rfl
    have hlt1 : i < ss.length := by omega
    have hrl := runU_le ts i
    have w1 : IntKind.i64.wrap ((i : Int) + 1) = (i : Int) + 1 := wrap_i64 (by omega) (by omega)
    have w2 : IntKind.i64.wrap ((runU ts i : Int) + 1) = (runU ts i : Int) + 1 := wrap_i64 (by omega) (by omega)
    have hru : runU ts (i + 1) = if ownerS ts i = -1 then runU ts i + 1 else 0 := rfl
    have hge := ownerS_ge ts i
    simp (maxSteps := 1000000) (disch := first | assumption | omega | rfl | decide | simp only [fitsR, Bool.and_self]) [↓rules, rules, ↓rulesDp, rulesDq, lit_u64, Int.ofNat_inj, stops, rc_reevelaw12_StateGapsl0, q_int, q_bool, q_geo_Geo, q_S_state_Slot, q_S_thing_Thing, q_state_State, q_cap_Cap, q_state_Slot, q_uint, q_uint64, q_A4_uint64, q_thing_Thing, hlt, r0']
    rw [← hVS]
    refine rcall_quiet rfl (state_Owner a b c VS VT ss ts i _ _ (by omega) (by omega) hs1 ht1) ?_
    rw [show ownV a b c ss ts i = ownerS ts i from if_pos ⟨hgd, by omega, by omega⟩]
    by_cases co : ownerS ts i = -1
    · rw [if_pos co] at hru
      by_cases ce : runU ts i + 1 = M
      · have hgi := gapI_some hlt1 (hru.trans ce) hno
        have ce' : (runU ts i : Int) + 1 = M := by omega
        have w3 : IntKind.i64.wrap ((i : Int) - M) = (i : Int) - M := wrap_i64 (by omega) (by omega)
        have w4 : IntKind.i64.wrap ((i : Int) - M + 1) = (i : Int) - M + 1 := wrap_i64 (by omega) (by omega)
        rw [show gapV ts ss.length M = ((i : Int) - M + 1, true) by unfold gapV; rw [hgi]; simp only [Prod.mk.injEq, and_true]; omega] at hgv
        cases hgv
        have wM : IntKind.i64.wrap (M : Int) = M := wrap_i64 (by omega) (by omega)
        simp (maxSteps := 1000000) (disch := first | assumption | omega | rfl | decide | simp only [fitsR, Bool.and_self]) [↓rules, rules, ↓rulesDp, rulesDq, lit_u64, Int.ofNat_inj, stops, q_int, q_bool, q_geo_Geo, q_S_state_Slot, q_S_thing_Thing, q_state_State, q_cap_Cap, q_state_Slot, q_uint, q_uint64, q_A4_uint64, q_thing_Thing, co, w2, ce', wM, w3, w4]
        exact done_q hdom k1 rfl rfl
      · have ce' : ¬ (runU ts i : Int) + 1 = M := by omega
        simp (maxSteps := 1000000) (disch := first | assumption | omega | rfl | decide | simp only [fitsR, Bool.and_self]) [↓rules, rules, ↓rulesDp, rulesDq, lit_u64, Int.ofNat_inj, stops, q_int, q_bool, q_geo_Geo, q_S_state_Slot, q_S_thing_Thing, q_state_State, q_cap_Cap, q_state_Slot, q_uint, q_uint64, q_A4_uint64, q_thing_Thing, co, w2, ce', w1]
        exact ⟨ss.length - (i + 1), by omega, i + 1, rfl, by omega, fun j hj => by
          by_cases hji : j = i
          · subst hji; rw [hru]; exact ce
          · exact hno j (by omega), by rw [hru]; omega⟩
    · rw [if_neg co] at hru
      have co' : 0 ≤ ownerS ts i := by omega
      simp (maxSteps := 1000000) (disch := first | assumption | omega | rfl | decide | simp only [fitsR, Bool.and_self]) [↓rules, rules, ↓rulesDp, rulesDq, lit_u64, Int.ofNat_inj, stops, q_int, q_bool, q_geo_Geo, q_S_state_Slot, q_S_thing_Thing, q_state_State, q_cap_Cap, q_state_Slot, q_uint, q_uint64, q_A4_uint64, q_thing_Thing, co', w1]
      exact ⟨ss.length - (i + 1), by omega, i + 1, rfl, by omega, fun j hj => by
          by_cases hji : j = i
          · subst hji; rw [hru]; omega
          · exact hno j (by omega), by rw [hru]; omega⟩
  · exact ⟨0, by simp, by simp, rfl, rfl, fun j hj => by omega, by rfl⟩
end Go.Proofs.Ytkcahnefekkfaaa.F12G
