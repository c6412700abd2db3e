/- Contracts of functions: what each one returns, and what it leaves. No statement is proved here. -/
import Derived.Test.YtcndbfekcmalmaaP6b
set_option linter.unusedVariables false
set_option linter.unusedSimpArgs false
namespace Go.Proofs.Ytcndbfekcmalmaa.F6
open Go Go.Proofs Go.Proofs.YtcndbfekcmalmaaAbs Go.Proofs.YtcndbfekcmalmaaAbs.Flt
set_option maxHeartbeats 4000000
set_option maxRecDepth 100000
def rowsL (x : List (BitVec 64)) : Int := rowsG (uI (x.getD 1 0#64)) (uI (x.getD 2 0#64)) (uI (x.getD 3 0#64))
def endS (x : List (BitVec 64)) (n : Nat) : Bool := getS x && decide (rowsL x = (n : Int) / 8)
def findS (l : List (BitVec 64)) : Value × Bool × Bool := if l.length < 8 ∨ l.length % 8 ≠ 0 then (sv 0 0 0 0#64, false, false) else
  (if endS (l.take 8) l.length = true then resS (l.take 8) else if endS (l.drop (l.length - 8)) l.length = true then resS (l.drop (l.length - 8)) else sv 0 0 0 0#64, endS (l.take 8) l.length, endS (l.drop (l.length - 8)) l.length)
theorem resS_dec (x : List (BitVec 64)) : ∃ (a b c : Int) (w : BitVec 64), resS x = sv a b c w ∧ (getS x = true → rowsL x = rowsG a b c) := by
  unfold resS
  split
  · exact ⟨_, _, _, _, rfl, fun _ => rfl⟩
  · rename_i h; exact ⟨_, _, _, _, rfl, fun k => absurd k h⟩
theorem super_Find (va : Value) (l : List (BitVec 64)) (g : AMem) (n : Nat) (hl : l.length < 4611686018427387904) (hv : rdW g va l) : FnC Try.prog f_super_Find [va] g n (fun _ => False) (.tuple #[(findS l).1, .bool (findS l).2.1, .bool (findS l).2.2]) g n := by
  refine fnC_of_rwp t_super_Find hm rfl fun hdom => ?_
  obtain ⟨pa, ea, hva⟩ := hv.form
  have eq8 : ((l.length : Int).tdiv 8) = (l.length : Int) / 8 := Int.tdiv_eq_ediv_of_nonneg (by omega)
  have er8 : ((l.length : Int).tmod 8) = (l.length : Int) % 8 := Int.tmod_eq_emod_of_nonneg (by omega)
  by_cases c1 : (l.length : Int) < 8
  · have hf : findS l = (sv 0 0 0 0#64, false, false) := by unfold findS; rw [if_pos (Or.inl (by omega))]
    rw [hf]
    simp (maxSteps := 1000000) (disch := first | assumption | omega | rfl | decide | simp only [fitsR, Bool.and_self]) [↓rules, rules, ↓rulesDp, rulesDq, lit_u64, Int.ofNat_inj, stops, rc_super_Find, q_int, q_bool, q_S_uint64, q_uint64, q_geo_Geo, q_super_Super, hva, c1]
    refine done_q hdom (by repeat first | exact Kept.refl hdom | refine Kept.new ?_ _ | refine Kept.drop ?_ (by omega) | refine Kept.put ?_ (by omega) (by omega) _ | refine Kept.skip ?_) rfl ?_
    simp (maxSteps := 1000000) (disch := first | assumption | omega | rfl | decide | simp only [fitsR, Bool.and_self]) [↓rules, rules, ↓rulesDp, rulesDq, lit_u64, Int.ofNat_inj, stops, aResults, aRes, q_int, q_bool, q_S_uint64, q_uint64, q_geo_Geo, q_super_Super]
  by_cases c2 : l.length % 8 = 0
  case neg =>
    have hf : findS l = (sv 0 0 0 0#64, false, false) := by unfold findS; rw [if_pos (Or.inr c2)]
    rw [hf]
    have c2' : ¬ (l.length : Int) % 8 = 0 := by omega
    simp (maxSteps := 1000000) (disch := first | assumption | omega | rfl | decide | simp only [fitsR, Bool.and_self]) [↓rules, rules, ↓rulesDp, rulesDq, lit_u64, Int.ofNat_inj, stops, rc_super_Find, q_int, q_bool, q_S_uint64, q_uint64, q_geo_Geo, q_super_Super, hva, c1, bin_rem, er8, c2']
    refine done_q hdom (by repeat first | exact Kept.refl hdom | refine Kept.new ?_ _ | refine Kept.drop ?_ (by omega) | refine Kept.put ?_ (by omega) (by omega) _ | refine Kept.skip ?_) rfl ?_
    simp (maxSteps := 1000000) (disch := first | assumption | omega | rfl | decide | simp only [fitsR, Bool.and_self]) [↓rules, rules, ↓rulesDp, rulesDq, lit_u64, Int.ofNat_inj, stops, aResults, aRes, q_int, q_bool, q_S_uint64, q_uint64, q_geo_Geo, q_super_Super]
  have c2' : (l.length : Int) % 8 = 0 := by omega
  have hpos : 0 < l.length := by omega
  obtain ⟨b, o, hvb, _, _⟩ := rd_elems hv hpos
  subst hvb
  clear hva
  have w8 : IntKind.i64.wrap ((l.length : Int) - 8) = ((l.length - 8 : Nat) : Int) := by rw [wrap_i64 (by omega) (by omega)]; omega
  have wq : IntKind.i64.wrap ((l.length : Int) / 8) = (l.length : Int) / 8 := wrap_i64 (by omega) (by omega)
  have hf : findS l = (if endS (l.take 8) l.length = true then resS (l.take 8) else if endS (l.drop (l.length - 8)) l.length = true then resS (l.drop (l.length - 8)) else sv 0 0 0 0#64, endS (l.take 8) l.length, endS (l.drop (l.length - 8)) l.length) := by
    unfold findS; rw [if_neg (by omega)]
  rw [hf]
  have hA := rd_part (enc := fun w => [U w]) (fun _ => rfl) hv 0 8 (show 0 + 8 ≤ l.length by omega)
  have hB := rd_part (enc := fun w => [U w]) (fun _ => rfl) hv (l.length - 8) 8 (show l.length - 8 + 8 ≤ l.length by omega)
  simp only [List.drop_zero, Nat.zero_mul, Nat.add_zero, Nat.mul_one] at hA hB
  have hB8 : (l.drop (l.length - 8)).take 8 = l.drop (l.length - 8) := List.take_of_length_le (by rw [List.length_drop]; omega)
  rw [hB8] at hB
  obtain ⟨a1, a2, a3, a4, ra, pa⟩ := resS_dec (l.take 8)
  obtain ⟨b1, b2, b3, b4, rb, pb⟩ := resS_dec (l.drop (l.length - 8))
  have k0 : Kept g n (gset g n (some (.row [.int .i64 0, .int .i64 0, .int .i64 0, U 0#64] true))) (n + 1) := (by repeat first | exact Kept.refl hdom | refine Kept.new ?_ _ | refine Kept.drop ?_ (by omega) | refine Kept.put ?_ (by omega) (by omega) _ | refine Kept.skip ?_)
  have hle8 : (8 : Int) ≤ l.length := by omega
  have hle9 : 8 ≤ l.length := by omega
  have hsub : l.length - (l.length - 8) = 8 := by omega
  have hle4 : l.length - 8 < l.length := by omega
  have hle3 : l.length - 8 ≤ l.length := by omega
  simp (maxSteps := 1000000) (disch := first | assumption | omega | rfl | decide | simp only [fitsR, Bool.and_self]) [↓rules, rules, ↓rulesDp, rulesDq, lit_u64, Int.ofNat_inj, stops, rc_super_Find, q_int, q_bool, q_S_uint64, q_uint64, q_geo_Geo, q_super_Super, c1, bin_rem, er8, c2', hle9]
  refine rcall_quiet rfl (super_Get _ _ _ _ (by rw [List.length_take]; omega) (hA.ext (k0.ext hdom))) ?_
  have k1 : Kept g n (gset (gset g n (some (.row [.int .i64 0, .int .i64 0, .int .i64 0, U 0#64] true))) n (some (.row [.int .i64 a1, .int .i64 a2, .int .i64 a3, U a4] true))) (n + 1) := (Kept.refl hdom).new _ |>.put (by omega) (by omega) _
  rw [gset_gset] at k1
  rw [ra, rb]
  cases sA : getS (l.take 8)
  · have eA : endS (l.take 8) l.length = false := by unfold endS; rw [sA]; rfl
    rw [eA]
    simp (maxSteps := 1000000) (disch := first | assumption | omega | rfl | decide | simp only [fitsR, Bool.and_self]) [↓rules, rules, ↓rulesDp, rulesDq, lit_u64, Int.ofNat_inj, stops, q_int, q_bool, q_S_uint64, q_uint64, q_geo_Geo, q_super_Super, bin_quo, eq8, wq, w8, hle9, hle3, hle4, hsub]
    refine rcall_quiet rfl (super_Get _ _ _ _ (by rw [List.length_drop]; omega) (hB.ext (k1.ext hdom))) ?_
    rw [rb]
    cases sB : getS (l.drop (l.length - 8))
    · have eB : endS (l.drop (l.length - 8)) l.length = false := by unfold endS; rw [sB]; rfl
      rw [eB]
      simp (maxSteps := 1000000) (disch := first | assumption | omega | rfl | decide | simp only [fitsR, Bool.and_self]) [↓rules, rules, ↓rulesDp, rulesDq, lit_u64, Int.ofNat_inj, stops, q_int, q_bool, q_S_uint64, q_uint64, q_geo_Geo, q_super_Super, bin_quo, eq8, wq, w8, hle9, hle3, hle4, hsub]
      refine done_q hdom (by repeat first | exact k1 | refine Kept.new ?_ _ | refine Kept.drop ?_ (by omega) | refine Kept.put ?_ (by omega) (by omega) _ | refine Kept.skip ?_) rfl ?_
      simp (maxSteps := 1000000) (disch := first | assumption | omega | rfl | decide | simp only [fitsR, Bool.and_self]) [↓rules, rules, ↓rulesDp, rulesDq, lit_u64, Int.ofNat_inj, stops, aResults, aRes, q_int, q_bool, q_S_uint64, q_uint64, q_geo_Geo, q_super_Super]
    · simp (maxSteps := 1000000) (disch := first | assumption | omega | rfl | decide | simp only [fitsR, Bool.and_self]) [↓rules, rules, ↓rulesDp, rulesDq, lit_u64, Int.ofNat_inj, stops, q_int, q_bool, q_S_uint64, q_uint64, q_geo_Geo, q_super_Super, bin_quo, eq8, wq, w8, hle9, hle3, hle4, hsub]
      refine rcall_quiet rfl (RowsG b1 b2 b3 _ _) ?_
      by_cases dB : rowsG b1 b2 b3 = (l.length : Int) / 8
      · have eB : endS (l.drop (l.length - 8)) l.length = true := by unfold endS; rw [sB, pb sB, decide_eq_true dB]; rfl
        rw [eB]
        simp (maxSteps := 1000000) (disch := first | assumption | omega | rfl | decide | simp only [fitsR, Bool.and_self]) [↓rules, rules, ↓rulesDp, rulesDq, lit_u64, Int.ofNat_inj, stops, q_int, q_bool, q_S_uint64, q_uint64, q_geo_Geo, q_super_Super, bin_quo, eq8, wq, w8, hle9, hle3, hle4, hsub, dB]
        refine done_q hdom (by repeat first | exact k1 | refine Kept.new ?_ _ | refine Kept.drop ?_ (by omega) | refine Kept.put ?_ (by omega) (by omega) _ | refine Kept.skip ?_) rfl ?_
        simp (maxSteps := 1000000) (disch := first | assumption | omega | rfl | decide | simp only [fitsR, Bool.and_self]) [↓rules, rules, ↓rulesDp, rulesDq, lit_u64, Int.ofNat_inj, stops, aResults, aRes, q_int, q_bool, q_S_uint64, q_uint64, q_geo_Geo, q_super_Super]
      · have eB : endS (l.drop (l.length - 8)) l.length = false := by unfold endS; rw [sB, pb sB, decide_eq_false dB]; rfl
        rw [eB]
        simp (maxSteps := 1000000) (disch := first | assumption | omega | rfl | decide | simp only [fitsR, Bool.and_self]) [↓rules, rules, ↓rulesDp, rulesDq, lit_u64, Int.ofNat_inj, stops, q_int, q_bool, q_S_uint64, q_uint64, q_geo_Geo, q_super_Super, bin_quo, eq8, wq, w8, hle9, hle3, hle4, hsub, dB]
        refine done_q hdom (by repeat first | exact k1 | refine Kept.new ?_ _ | refine Kept.drop ?_ (by omega) | refine Kept.put ?_ (by omega) (by omega) _ | refine Kept.skip ?_) rfl ?_
        simp (maxSteps := 1000000) (disch := first | assumption | omega | rfl | decide | simp only [fitsR, Bool.and_self]) [↓rules, rules, ↓rulesDp, rulesDq, lit_u64, Int.ofNat_inj, stops, aResults, aRes, q_int, q_bool, q_S_uint64, q_uint64, q_geo_Geo, q_super_Super]
  · simp (maxSteps := 1000000) (disch := first | assumption | omega | rfl | decide | simp only [fitsR, Bool.and_self]) [↓rules, rules, ↓rulesDp, rulesDq, lit_u64, Int.ofNat_inj, stops, q_int, q_bool, q_S_uint64, q_uint64, q_geo_Geo, q_super_Super, bin_quo, eq8, wq, w8, hle9, hle3, hle4, hsub]
    refine rcall_quiet rfl (RowsG a1 a2 a3 _ _) ?_
    by_cases dA : rowsG a1 a2 a3 = (l.length : Int) / 8
    · have eA : endS (l.take 8) l.length = true := by unfold endS; rw [sA, pa sA, decide_eq_true dA]; rfl
      rw [eA]
      simp (maxSteps := 1000000) (disch := first | assumption | omega | rfl | decide | simp only [fitsR, Bool.and_self]) [↓rules, rules, ↓rulesDp, rulesDq, lit_u64, Int.ofNat_inj, stops, q_int, q_bool, q_S_uint64, q_uint64, q_geo_Geo, q_super_Super, bin_quo, eq8, wq, w8, hle9, hle3, hle4, hsub, dA]
      refine rcall_quiet rfl (super_Get _ _ _ _ (by rw [List.length_drop]; omega) (hB.ext (k1.ext hdom))) ?_
      rw [rb]
      cases sB : getS (l.drop (l.length - 8))
      · have eB : endS (l.drop (l.length - 8)) l.length = false := by unfold endS; rw [sB]; rfl
        rw [eB]
        simp (maxSteps := 1000000) (disch := first | assumption | omega | rfl | decide | simp only [fitsR, Bool.and_self]) [↓rules, rules, ↓rulesDp, rulesDq, lit_u64, Int.ofNat_inj, stops, q_int, q_bool, q_S_uint64, q_uint64, q_geo_Geo, q_super_Super, bin_quo, eq8, wq, w8, hle9, hle3, hle4, hsub]
        refine done_q hdom (by repeat first | exact k1 | refine Kept.new ?_ _ | refine Kept.drop ?_ (by omega) | refine Kept.put ?_ (by omega) (by omega) _ | refine Kept.skip ?_) rfl ?_
        simp (maxSteps := 1000000) (disch := first | assumption | omega | rfl | decide | simp only [fitsR, Bool.and_self]) [↓rules, rules, ↓rulesDp, rulesDq, lit_u64, Int.ofNat_inj, stops, aResults, aRes, q_int, q_bool, q_S_uint64, q_uint64, q_geo_Geo, q_super_Super]
      · simp (maxSteps := 1000000) (disch := first | assumption | omega | rfl | decide | simp only [fitsR, Bool.and_self]) [↓rules, rules, ↓rulesDp, rulesDq, lit_u64, Int.ofNat_inj, stops, q_int, q_bool, q_S_uint64, q_uint64, q_geo_Geo, q_super_Super, bin_quo, eq8, wq, w8, hle9, hle3, hle4, hsub]
        refine rcall_quiet rfl (RowsG b1 b2 b3 _ _) ?_
        by_cases dB : rowsG b1 b2 b3 = (l.length : Int) / 8
        · have eB : endS (l.drop (l.length - 8)) l.length = true := by unfold endS; rw [sB, pb sB, decide_eq_true dB]; rfl
          rw [eB]
          simp (maxSteps := 1000000) (disch := first | assumption | omega | rfl | decide | simp only [fitsR, Bool.and_self]) [↓rules, rules, ↓rulesDp, rulesDq, lit_u64, Int.ofNat_inj, stops, q_int, q_bool, q_S_uint64, q_uint64, q_geo_Geo, q_super_Super, bin_quo, eq8, wq, w8, hle9, hle3, hle4, hsub, dB]
          refine done_q hdom (by repeat first | exact k1 | refine Kept.new ?_ _ | refine Kept.drop ?_ (by omega) | refine Kept.put ?_ (by omega) (by omega) _ | refine Kept.skip ?_) rfl ?_
          simp (maxSteps := 1000000) (disch := first | assumption | omega | rfl | decide | simp only [fitsR, Bool.and_self]) [↓rules, rules, ↓rulesDp, rulesDq, lit_u64, Int.ofNat_inj, stops, aResults, aRes, q_int, q_bool, q_S_uint64, q_uint64, q_geo_Geo, q_super_Super]
        · have eB : endS (l.drop (l.length - 8)) l.length = false := by unfold endS; rw [sB, pb sB, decide_eq_false dB]; rfl
          rw [eB]
          simp (maxSteps := 1000000) (disch := first | assumption | omega | rfl | decide | simp only [fitsR, Bool.and_self]) [↓rules, rules, ↓rulesDp, rulesDq, lit_u64, Int.ofNat_inj, stops, q_int, q_bool, q_S_uint64, q_uint64, q_geo_Geo, q_super_Super, bin_quo, eq8, wq, w8, hle9, hle3, hle4, hsub, dB]
          refine done_q hdom (by repeat first | exact k1 | refine Kept.new ?_ _ | refine Kept.drop ?_ (by omega) | refine Kept.put ?_ (by omega) (by omega) _ | refine Kept.skip ?_) rfl ?_
          simp (maxSteps := 1000000) (disch := first | assumption | omega | rfl | decide | simp only [fitsR, Bool.and_self]) [↓rules, rules, ↓rulesDp, rulesDq, lit_u64, Int.ofNat_inj, stops, aResults, aRes, q_int, q_bool, q_S_uint64, q_uint64, q_geo_Geo, q_super_Super]
    · have eA : endS (l.take 8) l.length = false := by unfold endS; rw [sA, pa sA, decide_eq_false dA]; rfl
      rw [eA]
      simp (maxSteps := 1000000) (disch := first | assumption | omega | rfl | decide | simp only [fitsR, Bool.and_self]) [↓rules, rules, ↓rulesDp, rulesDq, lit_u64, Int.ofNat_inj, stops, q_int, q_bool, q_S_uint64, q_uint64, q_geo_Geo, q_super_Super, bin_quo, eq8, wq, w8, hle9, hle3, hle4, hsub, dA]
      refine rcall_quiet rfl (super_Get _ _ _ _ (by rw [List.length_drop]; omega) (hB.ext (k1.ext hdom))) ?_
      rw [rb]
      cases sB : getS (l.drop (l.length - 8))
      · have eB : endS (l.drop (l.length - 8)) l.length = false := by unfold endS; rw [sB]; rfl
        rw [eB]
        simp (maxSteps := 1000000) (disch := first | assumption | omega | rfl | decide | simp only [fitsR, Bool.and_self]) [↓rules, rules, ↓rulesDp, rulesDq, lit_u64, Int.ofNat_inj, stops, q_int, q_bool, q_S_uint64, q_uint64, q_geo_Geo, q_super_Super, bin_quo, eq8, wq, w8, hle9, hle3, hle4, hsub]
        refine done_q hdom (by repeat first | exact k1 | refine Kept.new ?_ _ | refine Kept.drop ?_ (by omega) | refine Kept.put ?_ (by omega) (by omega) _ | refine Kept.skip ?_) rfl ?_
        simp (maxSteps := 1000000) (disch := first | assumption | omega | rfl | decide | simp only [fitsR, Bool.and_self]) [↓rules, rules, ↓rulesDp, rulesDq, lit_u64, Int.ofNat_inj, stops, aResults, aRes, q_int, q_bool, q_S_uint64, q_uint64, q_geo_Geo, q_super_Super]
      · simp (maxSteps := 1000000) (disch := first | assumption | omega | rfl | decide | simp only [fitsR, Bool.and_self]) [↓rules, rules, ↓rulesDp, rulesDq, lit_u64, Int.ofNat_inj, stops, q_int, q_bool, q_S_uint64, q_uint64, q_geo_Geo, q_super_Super, bin_quo, eq8, wq, w8, hle9, hle3, hle4, hsub]
        refine rcall_quiet rfl (RowsG b1 b2 b3 _ _) ?_
        by_cases dB : rowsG b1 b2 b3 = (l.length : Int) / 8
        · have eB : endS (l.drop (l.length - 8)) l.length = true := by unfold endS; rw [sB, pb sB, decide_eq_true dB]; rfl
          rw [eB]
          simp (maxSteps := 1000000) (disch := first | assumption | omega | rfl | decide | simp only [fitsR, Bool.and_self]) [↓rules, rules, ↓rulesDp, rulesDq, lit_u64, Int.ofNat_inj, stops, q_int, q_bool, q_S_uint64, q_uint64, q_geo_Geo, q_super_Super, bin_quo, eq8, wq, w8, hle9, hle3, hle4, hsub, dB]
          refine done_q hdom (by repeat first | exact k1 | refine Kept.new ?_ _ | refine Kept.drop ?_ (by omega) | refine Kept.put ?_ (by omega) (by omega) _ | refine Kept.skip ?_) rfl ?_
          simp (maxSteps := 1000000) (disch := first | assumption | omega | rfl | decide | simp only [fitsR, Bool.and_self]) [↓rules, rules, ↓rulesDp, rulesDq, lit_u64, Int.ofNat_inj, stops, aResults, aRes, q_int, q_bool, q_S_uint64, q_uint64, q_geo_Geo, q_super_Super]
        · have eB : endS (l.drop (l.length - 8)) l.length = false := by unfold endS; rw [sB, pb sB, decide_eq_false dB]; rfl
          rw [eB]
          simp (maxSteps := 1000000) (disch := first | assumption | omega | rfl | decide | simp only [fitsR, Bool.and_self]) [↓rules, rules, ↓rulesDp, rulesDq, lit_u64, Int.ofNat_inj, stops, q_int, q_bool, q_S_uint64, q_uint64, q_geo_Geo, q_super_Super, bin_quo, eq8, wq, w8, hle9, hle3, hle4, hsub, dB]
          refine done_q hdom (by repeat first | exact k1 | refine Kept.new ?_ _ | refine Kept.drop ?_ (by omega) | refine Kept.put ?_ (by omega) (by omega) _ | refine Kept.skip ?_) rfl ?_
          simp (maxSteps := 1000000) (disch := first | assumption | omega | rfl | decide | simp only [fitsR, Bool.and_self]) [↓rules, rules, ↓rulesDp, rulesDq, lit_u64, Int.ofNat_inj, stops, aResults, aRes, q_int, q_bool, q_S_uint64, q_uint64, q_geo_Geo, q_super_Super]
end Go.Proofs.Ytcndbfekcmalmaa.F6

namespace Go.Proofs.Ytcndbfekcmalmaa.F6
open Go Go.Proofs Go.Proofs.YtcndbfekcmalmaaAbs Go.Proofs.YtcndbfekcmalmaaAbs.Flt
set_option maxRecDepth 100000
/-! What SuperFinds needs of superblocks at a memory's ends. -/
theorem getS_magic {x : List (BitVec 64)} (h : getS x = true) : x.getD 0 0#64 = 8243106252149764145#64 := by
  have h := of_decide_eq_true h
  have h2 := h.2
  unfold putS at h2
  split at h2
  · rw [← h2]; rfl
  · rw [← h2] at h; simp at h
theorem getS_zero {x : List (BitVec 64)} (h : x.getD 0 0#64 = 0#64) : getS x = false := by
  cases c : getS x
  · rfl
  · have := getS_magic c
    rw [h] at this
    exact absurd this (by decide)
theorem rowsL_put {a b c : Int} {w : BitVec 64} (hg : goodG a b c = true) : rowsL (putS a b c w) = rowsG a b c ∧ resS (putS a b c w) = sv a b c w := by
  have hh := goodG_iff.1 hg
  have hgot := putS_got (w := w) hg
  have e : putS a b c w = supL a b c w ++ [sealW (supL a b c w)] := if_pos hg
  constructor
  · unfold rowsL
    rw [e]
    simp only [supL, List.cons_append, List.nil_append, List.getD_cons_succ, List.getD_cons_zero]
    rw [uI_small (by omega) (by omega), uI_small (by omega) (by omega), uI_small (by omega) (by omega)]
  · unfold resS
    rw [if_pos hgot, e]
    simp only [supL, List.cons_append, List.nil_append, List.getD_cons_succ, List.getD_cons_zero]
    rw [uI_small (by omega) (by omega), uI_small (by omega) (by omega), uI_small (by omega) (by omega)]
end Go.Proofs.Ytcndbfekcmalmaa.F6

namespace Go.Proofs.Ytcndbfekcmalmaa.F6
open Go Go.Proofs Go.Proofs.YtcndbfekcmalmaaAbs Go.Proofs.YtcndbfekcmalmaaAbs.Flt
set_option maxRecDepth 100000
/-! A memory of which the ends are superblocks, or nought. -/
theorem putS_len {a b c : Int} {w : BitVec 64} (hg : goodG a b c = true) : (putS a b c w).length = 8 := by
  have e : putS a b c w = supL a b c w ++ [sealW (supL a b c w)] := if_pos hg
  rw [e]; rfl
theorem putS_bad {a b c : Int} {w : BitVec 64} (hg : ¬ goodG a b c = true) : putS a b c w = [] := if_neg hg
theorem ends_eq {l x : List (BitVec 64)} {k : Nat} {p : Bool} (hk : k + 8 ≤ l.length) (hx : x.length = 8) (h : ∀ j, j < 8 → l.getD (k + j) 0#64 = if p = true then x.getD j 0#64 else 0#64) :
    (l.drop k).take 8 = if p = true then x else List.replicate 8 0#64 := by
  apply List.ext_getElem
  · rw [List.length_take, List.length_drop]; split <;> simp [hx] <;> omega
  · intro j h1 h2
    have hj : j < 8 := by rw [List.length_take] at h1; omega
    have h3 := h j hj
    rw [List.getElem_take, List.getElem_drop]
    rw [List.getD_eq_getElem?_getD, List.getElem?_eq_getElem (by omega)] at h3
    simp only [Option.getD_some] at h3
    rw [h3]
    cases p
    · simp only [Bool.false_eq_true, if_false, List.getElem_replicate]
    · simp only [if_true]
      rw [List.getD_eq_getElem?_getD, List.getElem?_eq_getElem (by omega)]; rfl
theorem finds_ends {l : List (BitVec 64)} {a b c : Int} {v w : BitVec 64} {p q : Bool} (hg : goodG a b c = true) (hl : (l.length : Int) = 8 * rowsG a b c) (h16 : 16 ≤ l.length)
    (h1 : ∀ j, j < 8 → l.getD j 0#64 = if p = true then (putS a b c v).getD j 0#64 else 0#64)
    (h2 : ∀ j, j < 8 → l.getD (l.length - 8 + j) 0#64 = if q = true then (putS a b c w).getD j 0#64 else 0#64) :
    findS l = (if p = true then sv a b c v else if q = true then sv a b c w else sv 0 0 0 0#64, p, q) := by
  have e1 := ends_eq (l := l) (x := putS a b c v) (k := 0) (by omega) (putS_len hg) (fun j hj => by rw [Nat.zero_add]; exact h1 j hj)
  have e2 := ends_eq (l := l) (x := putS a b c w) (k := l.length - 8) (by omega) (putS_len hg) h2
  rw [List.drop_zero] at e1
  rw [List.take_of_length_le (by rw [List.length_drop]; omega)] at e2
  have hz : getS (List.replicate 8 0#64) = false := getS_zero rfl
  have hd : rowsG a b c = (l.length : Int) / 8 := by omega
  have key : ∀ (r : Bool) (u : BitVec 64), endS (if r = true then putS a b c u else List.replicate 8 0#64) l.length = r := fun r u => by
    cases r
    · unfold endS; rw [if_neg (by decide), hz]; rfl
    · unfold endS; rw [if_pos rfl, putS_got hg, (rowsL_put hg).1, decide_eq_true hd]; rfl
  unfold findS
  rw [if_neg (by omega), e1, e2, key, key]
  cases p
  · cases q
    · rfl
    · simp only [if_true, (rowsL_put hg).2]; rfl
  · simp only [if_true, (rowsL_put hg).2]
theorem rowsG_two {a b c : Int} (hg : goodG a b c = true) : 2 ≤ rowsG a b c ∧ rowsG a b c ≤ 4096 := by
  have hh := goodG_iff.1 hg
  unfold rowsG copyG
  rw [if_pos hg, if_pos hg]
  omega
theorem loop_cut {P : Program} {may : Nat → Prop} {rs : List Tmp} {b : RCode} {Q : RPost} {l : RL} {g : AMem} {n : Nat} (e : Exit) (I : RL → AMem → Nat → Prop) (h1 : ∀ l g n, I l g n → Q e l g n)
    (h2 : ∀ Q' : RPost, (∀ l g n, I l g n → Q' e l g n) → rwp P may (.loop rs b) Q' l g n) : rwp P may (.loop rs b) Q l g n := h2 Q h1
theorem splice_set (W : List (BitVec 64)) {i : Nat} (v : BitVec 64) (hi : i < W.length) : splice (W.map U) i [U v] = (W.set i v).map U := by
  rw [List.map_set, List.set_eq_take_append_cons_drop, if_pos (by simpa using hi)]
  simp [splice]
theorem getD_set (W : List (BitVec 64)) (i j : Nat) (v : BitVec 64) (hi : i < W.length) : (W.set i v).getD j 0#64 = if i = j then v else W.getD j 0#64 := by
  simp only [List.getD_eq_getElem?_getD, List.getElem?_set]
  by_cases e : i = j
  · subst e; rw [if_pos rfl, if_pos rfl, if_pos hi]; rfl
  · rw [if_neg e, if_neg e]
structure EndsZ (N : Nat) (W : List (BitVec 64)) : Prop where
  len : W.length = N
  lo : ∀ j, j < 8 → W.getD j 0#64 = 0#64
  hi : ∀ j, j < 8 → W.getD (N - 8 + j) 0#64 = 0#64
structure EndsI (N : Nat) (x y : List (BitVec 64)) (p q : Bool) (i : Nat) (W : List (BitVec 64)) : Prop where
  len : W.length = N
  lo : ∀ j, j < 8 → W.getD j 0#64 = if p = true ∧ j < i then x.getD j 0#64 else 0#64
  hi : ∀ j, j < 8 → W.getD (N - 8 + j) 0#64 = if q = true ∧ j < i then y.getD j 0#64 else 0#64
theorem EndsZ.zero {N : Nat} : EndsZ N (List.replicate N 0#64) := by
  have : ∀ j, (List.replicate N 0#64).getD j 0#64 = 0#64 := fun j => by
    simp only [List.getD_eq_getElem?_getD, List.getElem?_replicate]
    split <;> rfl
  exact ⟨by simp, fun j _ => this j, fun j _ => this _⟩
theorem EndsZ.set {N : Nat} {W : List (BitVec 64)} (h : EndsZ N W) {i : Nat} (v : BitVec 64) (h8 : 8 ≤ i) (hi : i < N - 8) : EndsZ N (W.set i v) :=
  ⟨by rw [List.length_set]; exact h.len, fun j hj => by rw [getD_set _ _ _ _ (by rw [h.len]; omega), if_neg (by omega)]; exact h.lo j hj, fun j hj => by rw [getD_set _ _ _ _ (by rw [h.len]; omega), if_neg (by omega)]; exact h.hi j hj⟩
theorem EndsZ.ends {N : Nat} {W : List (BitVec 64)} (h : EndsZ N W) (x y : List (BitVec 64)) (p q : Bool) : EndsI N x y p q 0 W := ⟨h.len, fun j hj => by rw [if_neg (by omega)]; exact h.lo j hj, fun j hj => by rw [if_neg (by omega)]; exact h.hi j hj⟩
theorem EndsI.step {N : Nat} {x y W : List (BitVec 64)} {p q : Bool} {i : Nat} (h : EndsI N x y p q i W) (h16 : 16 ≤ N) (hi : i < 8) :
    EndsI N x y p q (i + 1) (if q = true then (if p = true then W.set i (x.getD i 0#64) else W).set (N - 8 + i) (y.getD i 0#64) else (if p = true then W.set i (x.getD i 0#64) else W)) := by
  obtain ⟨h1, h2, h3⟩ := h
  have l1 : ∀ (v u : BitVec 64), (W.set i v).length = N := fun v u => by rw [List.length_set]; exact h1
  refine ⟨?_, fun j hj => ?_, fun j hj => ?_⟩
  · cases p <;> cases q <;> simp [h1]
  · have h2 := h2 j hj
    cases p <;> cases q <;> simp only [Bool.false_eq_true, false_and, if_false, true_and, if_true] at h2 ⊢
    · exact h2
    · rw [getD_set _ _ _ _ (by omega), if_neg (by omega)]; exact h2
    · rw [getD_set _ _ _ _ (by omega)]
      by_cases e : i = j
      · subst e; rw [if_pos rfl, if_pos (by omega)]
      · rw [if_neg e, h2]
        by_cases e2 : j < i
        · rw [if_pos e2, if_pos (by omega)]
        · rw [if_neg e2, if_neg (by omega)]
    · rw [getD_set _ _ _ _ (by rw [List.length_set]; omega), if_neg (by omega), getD_set _ _ _ _ (by omega)]
      by_cases e : i = j
      · subst e; rw [if_pos rfl, if_pos (by omega)]
      · rw [if_neg e, h2]
        by_cases e2 : j < i
        · rw [if_pos e2, if_pos (by omega)]
        · rw [if_neg e2, if_neg (by omega)]
  · have h3 := h3 j hj
    cases p <;> cases q <;> simp only [Bool.false_eq_true, false_and, if_false, true_and, if_true] at h3 ⊢
    · exact h3
    · rw [getD_set _ _ _ _ (by omega)]
      by_cases e : i = j
      · subst e; rw [if_pos rfl, if_pos (by omega)]
      · rw [if_neg (by omega), h3]
        by_cases e2 : j < i
        · rw [if_pos e2, if_pos (by omega)]
        · rw [if_neg e2, if_neg (by omega)]
    · rw [getD_set _ _ _ _ (by omega), if_neg (by omega)]; exact h3
    · rw [getD_set _ _ _ _ (by rw [List.length_set]; omega)]
      by_cases e : i = j
      · subst e; rw [if_pos rfl, if_pos (by omega)]
      · rw [if_neg (by omega), getD_set _ _ _ _ (by omega), if_neg (by omega), h3]
        by_cases e2 : j < i
        · rw [if_pos e2, if_pos (by omega)]
        · rw [if_neg e2, if_neg (by omega)]
theorem EndsI.done {N : Nat} {x y W : List (BitVec 64)} {p q : Bool} (h : EndsI N x y p q 8 W) : (∀ j, j < 8 → W.getD j 0#64 = if p = true then x.getD j 0#64 else 0#64) ∧ (∀ j, j < 8 → W.getD (W.length - 8 + j) 0#64 = if q = true then y.getD j 0#64 else 0#64) := by
  refine ⟨fun j hj => ?_, fun j hj => ?_⟩
  · rw [h.lo j hj]; cases p <;> simp [hj]
  · rw [h.len, h.hi j hj]; cases q <;> simp [hj]
theorem and1 (a : Int) : ∃ p : Bool, bAnd .i64 a 1 = if p = true then 1 else 0 := by
  have e : (BitVec.ofInt 64 a &&& 1#64).toNat = (BitVec.ofInt 64 a).toNat % 2 := by rw [BitVec.toNat_and]; exact Nat.and_one_is_mod _
  have h : bAnd .i64 a 1 = IntKind.i64.wrap ((BitVec.ofInt 64 a &&& 1#64).toNat : Int) := rfl
  rw [h, e, wrap_i64 (by omega) (by omega)]
  refine ⟨decide ((BitVec.ofInt 64 a).toNat % 2 = 1), ?_⟩
  by_cases c : (BitVec.ofInt 64 a).toNat % 2 = 1
  · rw [c]; simp
  · rw [show (BitVec.ofInt 64 a).toNat % 2 = 0 by omega]; simp
theorem and2 (a : Int) : ∃ q : Bool, bAnd .i64 a 2 = if q = true then 2 else 0 := by
  have h : bAnd .i64 a 2 = IntKind.i64.wrap ((BitVec.ofInt 64 a &&& 2#64).toNat : Int) := rfl
  have key : ∀ x : BitVec 64, x &&& 2#64 = 0#64 ∨ x &&& 2#64 = 2#64 := by
    intro x
    by_cases c : x.getLsbD 1 = true
    · right
      apply BitVec.eq_of_getLsbD_eq
      intro i hi
      rw [BitVec.getLsbD_and]
      by_cases e : i = 1
      · subst e; rw [c]; rfl
      · have : (2#64).getLsbD i = false := by
          rw [show (2#64 : BitVec 64) = 1#64 <<< 1 from rfl, BitVec.getLsbD_shiftLeft]
          simp; omega
        rw [this]; simp
    · left
      apply BitVec.eq_of_getLsbD_eq
      intro i hi
      rw [BitVec.getLsbD_and]
      by_cases e : i = 1
      · subst e; rw [(Bool.not_eq_true _).mp c]; rfl
      · have : (2#64).getLsbD i = false := by
          rw [show (2#64 : BitVec 64) = 1#64 <<< 1 from rfl, BitVec.getLsbD_shiftLeft]
          simp; omega
        rw [this]; simp
  rcases key (BitVec.ofInt 64 a) with e | e
  · exact ⟨false, by rw [h, e]; rfl⟩
  · exact ⟨true, by rw [h, e]; rfl⟩
end Go.Proofs.Ytcndbfekcmalmaa.F6

namespace Go.Proofs.Ytcndbfekcmalmaa.F6
open Go Go.Proofs Go.Proofs.YtcndbfekcmalmaaAbs Go.Proofs.YtcndbfekcmalmaaAbs.Flt
set_option maxHeartbeats 40000000
set_option maxRecDepth 100000
theorem SuperFinds (a b c : Int) (w : BitVec 64) (a' b' c' : Int) (w' : BitVec 64) (which : Int) (va : Value) (l : List (BitVec 64)) (g : AMem) (n : Nat) (hdom : ∀ i, g i ≠ none → i < n) (_ : -9223372036854775808 ≤ which) (_ : which ≤ 9223372036854775807) (hv : rdW g va l) :
    FnC Try.prog f_reevelaw6_SuperFinds [sv a b c w, sv a' b' c' w', .int .i64 which, va] g n (fun _ => False) (.bool true) g n := by
  refine fnC_of_rwp t_reevelaw6_SuperFinds hm rfl fun hdom => ?_
  obtain ⟨pa, ea, hva⟩ := hv.form
  simp (maxSteps := 1000000) (disch := first | assumption | omega | rfl | decide | simp only [fitsR, Bool.and_self]) [↓rules, rules, ↓rulesDp, rulesDq, lit_u64, Int.ofNat_inj, stops, rc_reevelaw6_SuperFinds, q_int, q_bool, q_S_uint64, q_uint64, q_geo_Geo, q_super_Super]
  refine rcall_quiet rfl (awake6 _ _) ?_
  simp (maxSteps := 1000000) (disch := first | assumption | omega | rfl | decide | simp only [fitsR, Bool.and_self]) [↓rules, rules, ↓rulesDp, rulesDq, lit_u64, Int.ofNat_inj, stops, q_int, q_bool, q_S_uint64, q_uint64, q_geo_Geo, q_super_Super]
  have k0 := ((Kept.refl hdom).new (.row [.int .i64 a, .int .i64 b, .int .i64 c, U w] true)).new (.row [.int .i64 a, .int .i64 b, .int .i64 c, U w'] true)
  have h0 : (gset (gset g n (some (.row [.int .i64 a, .int .i64 b, .int .i64 c, U w] true))) (n + 1) (some (.row [.int .i64 a, .int .i64 b, .int .i64 c, U w'] true))) n = some (.row [.int .i64 a, .int .i64 b, .int .i64 c, U w] true) := by
    simp only [gset]
    rw [if_neg (by omega), if_pos trivial]
  have h1 := gset_same (gset g n (some (.row [.int .i64 a, .int .i64 b, .int .i64 c, U w] true))) (n + 1) (some (.row [.int .i64 a, .int .i64 b, .int .i64 c, U w'] true))
  generalize gset (gset g n (some (.row [.int .i64 a, .int .i64 b, .int .i64 c, U w] true))) (n + 1) (some (.row [.int .i64 a, .int .i64 b, .int .i64 c, U w'] true)) = G at *
  refine dcall_spec k0.dom (super_Put a b c w _ _ k0.dom) (fun _ _ _ h => h.2) rfl (by first | trivial | simp (maxSteps := 1000000) (disch := first | assumption | omega | rfl | decide | simp only [fitsR, Bool.and_self]) [↓rules, rules, ↓rulesDp, rulesDq, lit_u64, Int.ofNat_inj]) fun vx g1 n1 ⟨r1, q1⟩ => ?_
  have hle1 := q1.le
  rw [← q1.same _ (by omega)] at h0 h1
  simp (maxSteps := 1000000) (disch := first | assumption | omega | rfl | decide | simp only [fitsR, Bool.and_self]) [↓rules, rules, ↓rulesDp, rulesDq, lit_u64, Int.ofNat_inj, stops, q_int, q_bool, q_S_uint64, q_uint64, q_geo_Geo, q_super_Super, h0, h1]
  refine dcall_spec q1.dom (super_Put a b c w' _ _ q1.dom) (fun _ _ _ h => h.2) rfl (by first | trivial | simp (maxSteps := 1000000) (disch := first | assumption | omega | rfl | decide | simp only [fitsR, Bool.and_self]) [↓rules, rules, ↓rulesDp, rulesDq, lit_u64, Int.ofNat_inj]) fun vy g2 n2 ⟨r2, q2⟩ => ?_
  have hle2 := q2.le
  rw [← q2.same _ (by omega)] at h0 h1
  have kk := (k0.trans q1).trans q2
  have r1 := r1.ext (q2.ext q1.dom)
  obtain ⟨px, ex, hvx⟩ := r1.form
  obtain ⟨py, ey, hvy⟩ := r2.form
  simp (maxSteps := 1000000) (disch := first | assumption | omega | rfl | decide | simp only [fitsR, Bool.and_self]) [↓rules, rules, ↓rulesDp, rulesDq, lit_u64, Int.ofNat_inj, stops, q_int, q_bool, q_S_uint64, q_uint64, q_geo_Geo, q_super_Super, h0, h1]
  refine rcall_quiet rfl (RowsG _ _ _ _ _) ?_
  cases cg : goodG a b c
  · rw [putS_bad (by simp [cg])] at hvx hvy
    simp only [List.length_nil] at hvx hvy
    simp (maxSteps := 1000000) (disch := first | assumption | omega | rfl | decide | simp only [fitsR, Bool.and_self]) [↓rules, rules, ↓rulesDp, rulesDq, lit_u64, Int.ofNat_inj, stops, q_int, q_bool, q_S_uint64, q_uint64, q_geo_Geo, q_super_Super, h0, h1, hvx, hvy]
    refine rcall_quiet rfl (GoodG _ _ _ _ _) ?_
    rw [cg]
    simp (maxSteps := 1000000) (disch := first | assumption | omega | rfl | decide | simp only [fitsR, Bool.and_self]) [↓rules, rules, ↓rulesDp, rulesDq, lit_u64, Int.ofNat_inj, stops, q_int, q_bool, q_S_uint64, q_uint64, q_geo_Geo, q_super_Super, h0, h1, hvx, hvy]
    exact done_q hdom kk rfl rfl
  have hin := rowsG_two cg
  have l8 := putS_len (w := w) cg
  have l8' := putS_len (w := w') cg
  have fe := fun (L : List (BitVec 64)) (p q : Bool) => finds_ends (l := L) (v := w) (w := w') (p := p) (q := q) cg
  obtain ⟨N, hN⟩ : ∃ N : Nat, 8 * rowsG a b c = (N : Int) := ⟨(8 * rowsG a b c).toNat, by omega⟩
  rw [hN] at fe
  generalize putS a b c w = x at *
  generalize putS a b c w' = y at *
  rw [l8] at hvx
  rw [l8'] at hvy
  have wN : IntKind.i64.wrap (8 * rowsG a b c) = (N : Int) := by rw [hN]; exact wrap_i64 (by omega) (by omega)
  have c1 : ¬ (N : Int) < 16 := by omega
  have c2 : ¬ (32768 : Int) < N := by omega
  have c3 : (N : Int) ≤ 70368744177664 := by omega
  have c4 : 8 * N ≤ 70368744177664 := by omega
  simp (maxSteps := 1000000) (disch := first | assumption | omega | rfl | decide | simp only [fitsR, Bool.and_self]) [↓rules, rules, ↓rulesDp, rulesDq, lit_u64, Int.ofNat_inj, stops, q_int, q_bool, q_S_uint64, q_uint64, q_geo_Geo, q_super_Super, h0, h1, hvx, hvy, wN, c1, c2, c3, c4, aMake_eq tu_S_uint64 ts_uint64 tb_uint64 tv_uint64]
  obtain ⟨bx, ox, hvx2, hbx, hx⟩ := rd_elems r1 (by omega)
  rw [hvx] at hvx2
  simp only [Value.slice.injEq] at hvx2
  obtain ⟨rfl, _, rfl⟩ := hvx2
  obtain ⟨by_, oy, hvy2, hby, hy⟩ := rd_elems r2 (by omega)
  rw [hvy] at hvy2
  simp only [Value.slice.injEq] at hvy2
  obtain ⟨rfl, _, rfl⟩ := hvy2
  obtain ⟨p, hp⟩ := and1 which
  obtain ⟨q, hq⟩ := and2 which
  have k3 := kk.new (.row ((List.replicate N 0#64).map U) true)
  refine loop_cut (.exit 0) (fun l' g' n' => ∃ (i : Int) (W : List (BitVec 64)), EndsZ N W ∧ g' = gset g2 n2 (some (.row (W.map U) true)) ∧ n' = n2 + 1 ∧ l' = [(2, .int .i64 which), (3, va), (4, .pointer (some ⟨n, 0, none⟩)), (5, .pointer (some ⟨n + 1, 0, none⟩)), (9, .slice (some ⟨bx, ox, none⟩) 8 1), (10, .slice (some ⟨by_, oy, none⟩) 8 1), (11, .int .i64 N), (12, .slice (some ⟨n2, 0, none⟩) N 1), (13, .int .i64 i), (68, .bool false)]) ?_ ?_
  · rintro l' g' n' ⟨i, W, hW, rfl, rfl, rfl⟩
    have h16 : 16 ≤ N := by omega
    simp (maxSteps := 1000000) (disch := first | assumption | omega | rfl | decide | simp only [fitsR, Bool.and_self]) [↓rules, rules, ↓rulesDp, rulesDq, lit_u64, Int.ofNat_inj, stops, q_int, q_bool, q_S_uint64, q_uint64, q_geo_Geo, q_super_Super]
    refine rwp_loop (fun k l' g' n' => ∃ (i : Nat) (W : List (BitVec 64)), k = 8 - i ∧ i ≤ 8 ∧ EndsI N x y p q i W ∧ g' = gset g2 n2 (some (.row (W.map U) true)) ∧ n' = n2 + 1 ∧ l' = [(2, .int .i64 which), (4, .pointer (some ⟨n, 0, none⟩)), (5, .pointer (some ⟨n + 1, 0, none⟩)), (9, .slice (some ⟨bx, ox, none⟩) 8 1), (10, .slice (some ⟨by_, oy, none⟩) 8 1), (11, .int .i64 N), (12, .slice (some ⟨n2, 0, none⟩) N 1), (14, .int .i64 i)]) ?_ (k := 8) ?_
    · rintro k l' g' n' ⟨i, W, rfl, hi8, hW, rfl, rfl, rfl⟩
      have k4 := kk.new (.row (W.map U) true)
      have hle3 := kk.le
      by_cases d : (i : Int) < 8
      case neg =>
        have ei : i = 8 := by omega
        subst ei
        have hd := hW.done
        have hlen := hW.len
        have hf := fe W p q (by rw [hlen]) (by omega) hd.1 hd.2
        have hrd : rdW (gset g2 n2 (some (.row (W.map U) true))) (.slice (some ⟨n2, 0, none⟩) N 1) W := rd_map (r := true) (if_pos rfl) hlen.symm
        have h0' : (gset g2 n2 (some (.row (W.map U) true))) n = some (.row [.int .i64 a, .int .i64 b, .int .i64 c, U w] true) := by rw [gset_ne _ _ (by omega)]; exact h0
        have h1' : (gset g2 n2 (some (.row (W.map U) true))) (n + 1) = some (.row [.int .i64 a, .int .i64 b, .int .i64 c, U w'] true) := by rw [gset_ne _ _ (by omega)]; exact h1
        have nn1 : n ≤ n2 + 1 := by omega
        have nn2 : n ≤ n2 + 1 + 1 := by omega
        have ne1 : ¬ n = n2 := by omega
        have ne2 : ¬ n = n2 + 1 := by omega
        have ne3 : ¬ n = n2 + 1 + 1 := by omega
        have ne4 : ¬ n + 1 = n2 := by omega
        generalize gset g2 n2 (some (.row (W.map U) true)) = G3 at *
        simp (maxSteps := 1000000) (disch := first | assumption | omega | rfl | decide | simp only [fitsR, Bool.and_self]) [↓rules, rules, ↓rulesDp, rulesDq, lit_u64, Int.ofNat_inj, stops, rc_reevelaw6_SuperFindsl1, q_int, q_bool, q_S_uint64, q_uint64, q_geo_Geo, q_super_Super, d]
        refine rcall_quiet rfl (super_Find _ W _ _ (by omega) hrd) ?_
        rw [hf]
        have beq : ∀ x : Bool, (x == x) = true := fun x => by cases x <;> rfl
        cases p <;> cases q <;> simp only [Bool.false_eq_true, if_false, if_true] at hp hq ⊢
        · simp (maxSteps := 1000000) (disch := first | assumption | omega | rfl | decide | simp only [fitsR, Bool.and_self]) [↓rules, rules, ↓rulesDp, rulesDq, lit_u64, Int.ofNat_inj, stops, q_int, q_bool, q_S_uint64, q_uint64, q_geo_Geo, q_super_Super, h0', h1', hp, hq, nn1, nn2, ne1, ne2, ne3, ne4, beq_super_Super, bin_eql_bool tu_bool, beq]
          refine done_q hdom ((k4.new _).new _) rfl ?_
          first | rfl | (simp; rfl)
        · simp (maxSteps := 1000000) (disch := first | assumption | omega | rfl | decide | simp only [fitsR, Bool.and_self]) [↓rules, rules, ↓rulesDp, rulesDq, lit_u64, Int.ofNat_inj, stops, q_int, q_bool, q_S_uint64, q_uint64, q_geo_Geo, q_super_Super, h0', h1', hp, hq, nn1, nn2, ne1, ne2, ne3, ne4, beq_super_Super, bin_eql_bool tu_bool, beq]
          refine done_q hdom ((k4.new _).new _) rfl ?_
          first | rfl | (simp; rfl)
        · simp (maxSteps := 1000000) (disch := first | assumption | omega | rfl | decide | simp only [fitsR, Bool.and_self]) [↓rules, rules, ↓rulesDp, rulesDq, lit_u64, Int.ofNat_inj, stops, q_int, q_bool, q_S_uint64, q_uint64, q_geo_Geo, q_super_Super, h0', h1', hp, hq, nn1, nn2, ne1, ne2, ne3, ne4, beq_super_Super, bin_eql_bool tu_bool, beq]
          refine done_q hdom ((k4.new _).new _) rfl ?_
          first | rfl | (simp; rfl)
        · simp (maxSteps := 1000000) (disch := first | assumption | omega | rfl | decide | simp only [fitsR, Bool.and_self]) [↓rules, rules, ↓rulesDp, rulesDq, lit_u64, Int.ofNat_inj, stops, q_int, q_bool, q_S_uint64, q_uint64, q_geo_Geo, q_super_Super, h0', h1', hp, hq, nn1, nn2, ne1, ne2, ne3, ne4, beq_super_Super, bin_eql_bool tu_bool, beq]
          refine done_q hdom ((k4.new _).new _) rfl ?_
          first | rfl | (simp; rfl)
      have d' : i < 8 := by omega
      have hst := hW.step h16 d'
      have hlen := hW.len
      have hxi := hx i (by omega) _ (((Kept.refl q2.dom).new (.row (W.map U) true)).ext q2.dom) Try.prog _ ta_uint64
      have w3 : IntKind.i64.wrap ((i : Int) + 1) = ((i + 1 : Nat) : Int) := by rw [wrap_i64 (by omega) (by omega)]; omega
      have w4 : IntKind.i64.wrap (IntKind.i64.wrap ((N : Int) - 8) + (i : Int)) = ((N - 8 + i : Nat) : Int) := by
        rw [wrap_i64 (x := (N : Int) - 8) (by omega) (by omega), wrap_i64 (by omega) (by omega)]; omega
      have hiN : i < N := by omega
      have hiN1 : i + 1 ≤ N := by omega
      have hjN : N - 8 + i < N := by omega
      have hjN1 : N - 8 + i + 1 ≤ N := by omega
      have gx : x.getD i 0#64 = x[i]'(by omega) := by rw [List.getD_eq_getElem?_getD, List.getElem?_eq_getElem (by omega)]; rfl
      have gy : y.getD i 0#64 = y[i]'(by omega) := by rw [List.getD_eq_getElem?_getD, List.getElem?_eq_getElem (by omega)]; rfl
      have hs1 := splice_set W (x[i]'(by omega)) (i := i) (by omega)
      have hs2 := splice_set W (y[i]'(by omega)) (i := N - 8 + i) (by omega)
      have hs3 := splice_set (W.set i (x[i]'(by omega))) (y[i]'(by omega)) (i := N - 8 + i) (by rw [List.length_set]; omega)
      have hyi := fun W' : List (BitVec 64) => hy i (by omega) (gset g2 n2 (some (.row (W'.map U) true))) (((Kept.refl q2.dom).new (.row (W'.map U) true)).ext q2.dom) Try.prog _ ta_uint64
      rw [gx, gy] at hst
      have hyi2 := hyi (W.set i (x[i]'(by omega)))
      obtain ⟨m, hm⟩ : ∃ m, N - 8 + i = m := ⟨_, rfl⟩
      rw [hm] at hst hs2 hs3 w4 hjN hjN1
      try simp only [List.map_set] at hs1
      try simp only [List.map_set] at hs2
      try simp only [List.map_set] at hs3
      try simp only [List.map_set] at hyi2
      cases p
      · cases q
        · simp only [Bool.false_eq_true, if_false] at hp hq hst
          simp (maxSteps := 1000000) (disch := first | assumption | omega | rfl | decide | simp only [fitsR, Bool.and_self]) [↓rules, rules, ↓rulesDp, rulesDq, lit_u64, Int.ofNat_inj, stops, rc_reevelaw6_SuperFindsl1, q_int, q_bool, q_S_uint64, q_uint64, q_geo_Geo, q_super_Super, d, d', hp, hq, w3]
          exact ⟨8 - (i + 1), by omega, i + 1, rfl, by omega, _, hst, by first | rfl | simp only [List.map_set], by omega⟩
        · simp only [Bool.false_eq_true, if_false, if_true] at hp hq hst
          simp (maxSteps := 1000000) (disch := first | assumption | omega | rfl | decide | simp only [fitsR, Bool.and_self]) [↓rules, rules, ↓rulesDp, rulesDq, lit_u64, Int.ofNat_inj, stops, rc_reevelaw6_SuperFindsl1, q_int, q_bool, q_S_uint64, q_uint64, q_geo_Geo, q_super_Super, d, d', hp, hq, w3, w4, hyi, hjN, hjN1, hlen, hs2]
          exact ⟨by omega, 8 - (i + 1), by omega, i + 1, rfl, by omega, _, hst, by first | rfl | simp only [List.map_set], by omega⟩
      · cases q
        · simp only [Bool.false_eq_true, if_false, if_true] at hp hq hst
          simp (maxSteps := 1000000) (disch := first | assumption | omega | rfl | decide | simp only [fitsR, Bool.and_self]) [↓rules, rules, ↓rulesDp, rulesDq, lit_u64, Int.ofNat_inj, stops, rc_reevelaw6_SuperFindsl1, q_int, q_bool, q_S_uint64, q_uint64, q_geo_Geo, q_super_Super, d, d', hp, hq, w3, hxi, hiN, hiN1, hlen, hs1]
          exact ⟨by omega, 8 - (i + 1), by omega, i + 1, rfl, by omega, _, hst, by first | rfl | simp only [List.map_set], by omega⟩
        · simp only [if_true] at hp hq hst
          simp (maxSteps := 1000000) (disch := first | assumption | omega | rfl | decide | simp only [fitsR, Bool.and_self]) [↓rules, rules, ↓rulesDp, rulesDq, lit_u64, Int.ofNat_inj, stops, rc_reevelaw6_SuperFindsl1, q_int, q_bool, q_S_uint64, q_uint64, q_geo_Geo, q_super_Super, d, d', hp, hq, w3, w4, hxi, hyi, hyi2, hiN, hiN1, hjN, hjN1, hlen, hs1, hs3]
          exact ⟨by omega, 8 - (i + 1), by omega, i + 1, rfl, by omega, _, hst, by first | rfl | simp only [List.map_set], by omega⟩
    · exact ⟨0, W, rfl, by omega, hW.ends x y p q, rfl, rfl, rfl⟩
  intro Q hQ
  refine rwp_loop (fun k l' g' n' => ∃ (i : Nat) (W : List (BitVec 64)), k = 3000 - i ∧ 8 ≤ i ∧ EndsZ N W ∧ g' = gset g2 n2 (some (.row (W.map U) true)) ∧ n' = n2 + 1 ∧ l' = [(2, .int .i64 which), (3, va), (4, .pointer (some ⟨n, 0, none⟩)), (5, .pointer (some ⟨n + 1, 0, none⟩)), (9, .slice (some ⟨bx, ox, none⟩) 8 1), (10, .slice (some ⟨by_, oy, none⟩) 8 1), (11, .int .i64 N), (12, .slice (some ⟨n2, 0, none⟩) N 1), (13, .int .i64 i)]) ?_ (k := 3000 - 8) ?_
  · rintro k l' g' n' ⟨i, W, rfl, hi8, hW, rfl, rfl, rfl⟩
    have w1 : IntKind.i64.wrap ((N : Int) - 8) = ((N - 8 : Nat) : Int) := by rw [wrap_i64 (by omega) (by omega)]; omega
    by_cases d1 : (i : Int) < ((N - 8 : Nat) : Int)
    case neg =>
      simp (maxSteps := 1000000) (disch := first | assumption | omega | rfl | decide | simp only [fitsR, Bool.and_self]) [↓rules, rules, ↓rulesDp, rulesDq, lit_u64, Int.ofNat_inj, stops, rc_reevelaw6_SuperFindsl0, q_int, q_bool, q_S_uint64, q_uint64, q_geo_Geo, q_super_Super, w1, d1]
      exact hQ _ _ _ ⟨_, W, hW, rfl, rfl, rfl⟩
    have w2 : IntKind.i64.wrap ((i : Int) - 8) = ((i - 8 : Nat) : Int) := by rw [wrap_i64 (by omega) (by omega)]; omega
    by_cases d2 : ((i - 8 : Nat) : Int) < (l.length : Int)
    case neg =>
      simp (maxSteps := 1000000) (disch := first | assumption | omega | rfl | decide | simp only [fitsR, Bool.and_self]) [↓rules, rules, ↓rulesDp, rulesDq, lit_u64, Int.ofNat_inj, stops, rc_reevelaw6_SuperFindsl0, q_int, q_bool, q_S_uint64, q_uint64, q_geo_Geo, q_super_Super, w1, w2, d1, d2, hva]
      rw [← hva]
      exact hQ _ _ _ ⟨_, W, hW, rfl, rfl, rfl⟩
    by_cases d3 : (i : Int) < 3000
    case neg =>
      simp (maxSteps := 1000000) (disch := first | assumption | omega | rfl | decide | simp only [fitsR, Bool.and_self]) [↓rules, rules, ↓rulesDp, rulesDq, lit_u64, Int.ofNat_inj, stops, rc_reevelaw6_SuperFindsl0, q_int, q_bool, q_S_uint64, q_uint64, q_geo_Geo, q_super_Super, w1, w2, d1, d2, d3, hva]
      rw [← hva]
      exact hQ _ _ _ ⟨_, W, hW, rfl, rfl, rfl⟩
    have hlt : i - 8 < l.length := by omega
    obtain ⟨b1, o1, e1, hb1, e2⟩ := hv.one hlt
    have k4 := kk.new (.row (W.map U) true)
    have e3 := e2 _ (k4.ext hdom) Try.prog _ ta_uint64
    have hiN : i < N := by omega
    have hlen := hW.len
    have hi1 : i + 1 ≤ N := by omega
    have hsp := splice_set W (l[i - 8]) (i := i) (by omega)
    have w3 : IntKind.i64.wrap ((i : Int) + 1) = ((i + 1 : Nat) : Int) := by rw [wrap_i64 (by omega) (by omega)]; omega
    have hle3 := kk.le
    rw [e1]
    simp (maxSteps := 1000000) (disch := first | assumption | omega | rfl | decide | simp only [fitsR, Bool.and_self]) [↓rules, rules, ↓rulesDp, rulesDq, lit_u64, Int.ofNat_inj, stops, rc_reevelaw6_SuperFindsl0, q_int, q_bool, q_S_uint64, q_uint64, q_geo_Geo, q_super_Super, w1, w2, w3, d1, d2, d3, e3, hlt, hiN, hlen, hi1, hsp]
    exact ⟨by omega, 3000 - (i + 1), by omega, i + 1, rfl, by omega, W.set i (l[i - 8]), hW.set _ hi8 (by omega), by first | rfl | simp, by omega⟩
  · exact ⟨8, List.replicate N 0#64, rfl, by omega, EndsZ.zero, by rw [List.map_replicate], rfl, rfl⟩
end Go.Proofs.Ytcndbfekcmalmaa.F6
