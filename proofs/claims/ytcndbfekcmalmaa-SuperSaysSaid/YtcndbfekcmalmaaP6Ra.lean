/- Contracts of functions: what each one returns, and what it leaves. No statement is proved here. -/
import Derived.Test.YtcndbfekcmalmaaP6b
set_option linter.unusedVariables false
set_option linter.unusedSimpArgs false
namespace Go.Proofs.Ytcndbfekcmalmaa.F6
open Go Go.Proofs Go.Proofs.YtcndbfekcmalmaaAbs Go.Proofs.YtcndbfekcmalmaaAbs.Flt
set_option maxHeartbeats 4000000
set_option maxRecDepth 100000
theorem same_eq {a : Int} (ha : inZ a = true) : eqF (nearF a) (nearF a) = true := by
  have h := of_decide_eq_true ha
  rw [eq_near_near (by omega) (by omega)]; simp
theorem near_eq {a b : Int} (ha : inZ a = true) (hb : inZ b = true) : eqF (nearF a) (nearF b) = decide (a = b) := by
  have h := of_decide_eq_true ha
  have h' := of_decide_eq_true hb
  rw [eq_near_near (by omega) (by omega)]
theorem near_nil {a : Int} (ha : inZ a = true) (h0 : a ≠ 0) : eqF (nearF a) 0 = false := by
  have h := near_eq ha (b := 0) rfl
  rw [near_zero] at h
  rw [h, decide_eq_false h0]
theorem nil_nil : eqF 0 0 = true := by decide
theorem div_nil : D.div 4607182418800017408 0 = some 9218868437227405312 := by decide
theorem inf_inf : eqF 9218868437227405312 9218868437227405312 = true := by decide
theorem ofZ_yes {a b : Int} (ha : inZ a = true) (hb : inZ b = true) : ofZ a b = (nearF a, nearF b, true) := by unfold ofZ; rw [if_pos ⟨ha, hb⟩]
theorem ofZ_no {a b : Int} (h : ¬ (inZ a = true ∧ inZ b = true)) : ofZ a b = (0, 0, false) := by unfold ofZ; rw [if_neg h]
theorem inZ_ok {a : Int} (ha : inZ a = true) : okX (nearF a) := by have h := of_decide_eq_true ha; exact near_lt _ (by omega)
theorem near_i : nearF 0 = 0 ∧ nearF 1 = 4607182418800017408 := by decide
theorem in32_inZ {a : Int} (h : in32 a = true) : inZ a = true := by
  have := of_decide_eq_true h
  exact decide_eq_true (by omega)
end Go.Proofs.Ytcndbfekcmalmaa.F6

namespace Go.Proofs.Ytcndbfekcmalmaa.F6
open Go Go.Proofs Go.Proofs.YtcndbfekcmalmaaAbs Go.Proofs.YtcndbfekcmalmaaAbs.Flt
set_option maxHeartbeats 4000000
set_option maxRecDepth 100000
/-! The reference's whole complex numbers. -/
theorem inf_bits (s : Bool) : ltF (D.word s D.infRung) 0 = s := lt_inf s
def s1Z (a : Int) : Bool := decide (-1073741824 ≤ a ∧ a ≤ 1073741824)
theorem smallZ_eq (a b : Int) : smallZ a b = (s1Z a && s1Z b) := by
  unfold smallZ s1Z
  by_cases c1 : -1073741824 ≤ a ∧ a ≤ 1073741824
  · rw [decide_eq_true c1, Bool.true_and]
    by_cases c2 : -1073741824 ≤ b ∧ b ≤ 1073741824
    · rw [decide_eq_true c2, decide_eq_true (by omega)]
    · rw [decide_eq_false c2, decide_eq_false (by omega)]
  · rw [decide_eq_false c1, Bool.false_and, decide_eq_false (by omega)]
end Go.Proofs.Ytcndbfekcmalmaa.F6

namespace Go.Proofs.Ytcndbfekcmalmaa.F6
open Go Go.Proofs Go.Proofs.YtcndbfekcmalmaaAbs Go.Proofs.YtcndbfekcmalmaaAbs.Flt
set_option maxHeartbeats 4000000
set_option maxRecDepth 100000
theorem and3 (q : Int) : bAnd .i64 q 3 = ((quarters q : Nat) : Int) := by
  show IntKind.i64.wrap ((BitVec.ofInt 64 q &&& BitVec.ofInt 64 3 : BitVec 64).toNat : Int) = _
  have e : (BitVec.ofInt 64 q &&& BitVec.ofInt 64 3 : BitVec 64).toNat = quarters q := by
    rw [BitVec.toNat_and, show (BitVec.ofInt 64 3).toNat = 2 ^ 2 - 1 from rfl, Nat.and_two_pow_sub_one_eq_mod, BitVec.toNat_ofInt]
    unfold quarters
    omega
  rw [e]
  exact wrap_i64 (by omega) (by unfold quarters; omega)
theorem ref_rest (v : Int) (g : AMem) (n : Nat) : FnC Try.prog f_reeveref1_rest [.int .i64 v] g n (fun _ => False) (.int .i64 (restI v)) g n := by
  refine fnC_of_rwp t_reeveref1_rest hm rfl fun hdom => ?_
  have h1 := Int.tmod_lt_of_pos v (show (0:Int) < 1000003 by decide)
  have h2 := Int.lt_tmod_of_pos v (show (0:Int) < 1000003 by decide)
  have e := Int.tmod_eq_emod (a := v) (b := 1000003)
  unfold restI
  by_cases c : v.tmod 1000003 < 0
  · have w : IntKind.i64.wrap (v.tmod 1000003 + 1000003) = v % 1000003 := by rw [wrap_i64 (by omega) (by omega)]; split at e <;> omega
    simp (maxSteps := 1000000) (disch := first | assumption | omega | rfl | decide | simp only [fitsR, Bool.and_self]) [↓rules, rules, ↓rulesDp, rulesDq, lit_u64, Int.ofNat_inj, stops, rc_reeveref1_rest, q_int64, q_bool, bin_rem, w, c]
    exact done_q hdom (Kept.refl hdom) rfl rfl
  · have e2 : v.tmod 1000003 = v % 1000003 := by split at e <;> omega
    have c' : ¬ v % 1000003 < 0 := by omega
    simp (maxSteps := 1000000) (disch := first | assumption | omega | rfl | decide | simp only [fitsR, Bool.and_self]) [↓rules, rules, ↓rulesDp, rulesDq, lit_u64, Int.ofNat_inj, stops, rc_reeveref1_rest, q_int64, q_bool, bin_rem, c', e2]
    exact done_q hdom (Kept.refl hdom) rfl rfl
theorem q65 (w : BitVec 64) : (w / 65536#64).toNat = w.toNat / 65536 := by rw [BitVec.toNat_udiv]; rfl
theorem r65 (w : BitVec 64) : (w % 65536#64).toNat = w.toNat % 65536 := by rw [BitVec.toNat_umod]; rfl
theorem p65 (w : BitVec 64) : uI (w % 65536#64) = p16 w 0 ∧ uI (w / 65536#64 % 65536#64) = p16 w 1 ∧ uI (w / 65536#64 / 65536#64 % 65536#64) = p16 w 2 ∧ uI (w / 65536#64 / 65536#64 / 65536#64) = p16 w 3 := by
  have hw := w.isLt
  refine ⟨?_, ?_, ?_, ?_⟩ <;> simp only [uI, p16, r65, q65, Nat.reduceMul, Nat.reducePow] <;> omega
theorem ref_Sum {va : Value} {ws : List (BitVec 64)} (hl : ws.length < 4611686018427387904) (g : AMem) (n : Nat) (hv : rdW g va ws) : FnC Try.prog f_reeveref1_Sum [va] g n (fun _ => False) (.tuple #[.int .i64 (spinI (0, 0) ws).1, .int .i64 (spinI (0, 0) ws).2]) g n := by
  refine fnC_of_rwp t_reeveref1_Sum hm rfl fun hdom => ?_
  obtain ⟨a, e', hva⟩ := hv.form
  have hspin := fun k => spin_in (ws.take k) (0, 0) ⟨by decide, by decide⟩ ⟨by decide, by decide⟩
  simp (maxSteps := 1000000) (disch := first | assumption | omega | rfl | decide | simp only [fitsR, Bool.and_self]) [↓rules, rules, ↓rulesDp, rulesDq, lit_u64, Int.ofNat_inj, stops, rc_reeveref1_Sum, q_int64, q_int, q_bool, q_S_uint64, q_uint64]
  refine rwp_loop (fun k l g' n' => ∃ i, k = ws.length - i ∧ i ≤ ws.length ∧ g' = g ∧ n' = n ∧ l = [(0, va), (4, .int .i64 (spinI (0, 0) (ws.take i)).1), (5, .int .i64 (spinI (0, 0) (ws.take i)).2), (6, .int .i64 i)]) ?_ (k := ws.length) ?_
  · rintro j l g' n' ⟨i, rfl, hi, rfl, rfl, rfl⟩
    have hs := hspin i
    simp (maxSteps := 1000000) (disch := first | assumption | omega | rfl | decide | simp only [fitsR, Bool.and_self]) [↓rules, rules, ↓rulesDp, rulesDq, lit_u64, Int.ofNat_inj, stops, rc_reeveref1_Suml0, q_int64, q_int, q_bool, q_S_uint64, q_uint64, hva]
    refine rcond_dec (fun hlt => ?_) (fun hlt => ?_)
    · have hlt : i < ws.length := by omega
      have htake : spinI (0, 0) (ws.take (i + 1)) = stepI (spinI (0, 0) (ws.take i)) ws[i] := by rw [List.take_add_one, List.getElem?_eq_getElem hlt]; exact spin_snoc _ _ _
      obtain ⟨b1, o1, h1, _, h2⟩ := hv.one hlt
      have e1 := h2 g' (Ext.refl _) Try.prog _ ta_uint64
      rw [hva] at h1
      simp only [Value.slice.injEq] at h1
      obtain ⟨rfl, _, rfl⟩ := h1
      generalize hz : spinI (0, 0) (ws.take i) = z at *
      generalize ws[i] = w at *
      have p0 := p16_in w 0; have p1 := p16_in w 1; have p2 := p16_in w 2; have p3 := p16_in w 3
      obtain ⟨c0, c1, c2, c3⟩ := p65 w
      have wk : ∀ k, IntKind.i64.wrap (p16 w k) = p16 w k := fun k => wrap_i64 (by have := p16_in w k; omega) (by have := p16_in w k; omega)
      have v0 : IntKind.i64.wrap (-z.2) = -z.2 := wrap_i64 (by omega) (by omega)
      have v1 : IntKind.i64.wrap (-z.2 + p16 w 0) = -z.2 + p16 w 0 := wrap_i64 (by omega) (by omega)
      have v2 : IntKind.i64.wrap (-z.2 + p16 w 0 - p16 w 2) = -z.2 + (p16 w 0 - p16 w 2) := by rw [wrap_i64 (by omega) (by omega)]; omega
      have v3 : IntKind.i64.wrap (z.1 + p16 w 1) = z.1 + p16 w 1 := wrap_i64 (by omega) (by omega)
      have v4 : IntKind.i64.wrap (z.1 + p16 w 1 - p16 w 3) = z.1 + (p16 w 1 - p16 w 3) := by rw [wrap_i64 (by omega) (by omega)]; omega
      have w2 : IntKind.i64.wrap ((i : Int) + 1) = (i : Int) + 1 := wrap_i64 (by omega) (by omega)
      simp (maxSteps := 1000000) (disch := first | assumption | omega | rfl | decide | simp only [fitsR, Bool.and_self]) [↓rules, rules, ↓rulesDp, rulesDq, lit_u64, Int.ofNat_inj, stops, q_int64, q_int, q_bool, q_S_uint64, q_uint64, e1, hlt, ub_rem, ub_quo, conv_of_u64 tu_uint64 tu_int64, c0, c1, c2, c3, wk, v0, v1, v2]
      refine rcall_quiet rfl (ref_rest _ _ _) ?_
      simp (maxSteps := 1000000) (disch := first | assumption | omega | rfl | decide | simp only [fitsR, Bool.and_self]) [↓rules, rules, ↓rulesDp, rulesDq, lit_u64, Int.ofNat_inj, stops, q_int64, q_int, q_bool, q_S_uint64, q_uint64, ub_rem, ub_quo, conv_of_u64 tu_uint64 tu_int64, c0, c1, c2, c3, wk, v3, v4]
      refine rcall_quiet rfl (ref_rest _ _ _) ?_
      simp (maxSteps := 1000000) (disch := first | assumption | omega | rfl | decide | simp only [fitsR, Bool.and_self]) [↓rules, rules, ↓rulesDp, rulesDq, lit_u64, Int.ofNat_inj, stops, q_int64, q_int, q_bool, q_S_uint64, q_uint64, w2]
      refine ⟨ws.length - (i + 1), by omega, i + 1, rfl, by omega, ?_⟩
      exact ⟨by rw [htake]; rfl, by rw [htake]; rfl, by omega⟩
    · have hik : i = ws.length := by omega
      simp (maxSteps := 1000000) (disch := first | assumption | omega | rfl | decide | simp only [fitsR, Bool.and_self]) [↓rules, rules, ↓rulesDp, rulesDq, lit_u64, Int.ofNat_inj, stops, q_int64, q_int, q_bool, q_S_uint64, q_uint64]
      refine done_q hdom (Kept.refl hdom) rfl ?_
      rw [hik, List.take_length]; rfl
  · exact ⟨0, by simp, by simp, rfl, rfl, by rfl⟩
theorem word_sum {a b : Int} (ha : 0 ≤ a ∧ a ≤ 4294967295) (hb : 0 ≤ b ∧ b ≤ 4294967295) : BitVec.ofInt 64 b * 4294967296#64 + BitVec.ofInt 64 a = wordI a b := by
  have e1 : (BitVec.ofInt 64 a).toNat = a.toNat := by rw [BitVec.toNat_ofInt]; omega
  have e2 : (BitVec.ofInt 64 b).toNat = b.toNat := by rw [BitVec.toNat_ofInt]; omega
  apply BitVec.eq_of_toNat_eq
  unfold wordI
  rw [BitVec.toNat_or, BitVec.toNat_shiftLeft, BitVec.toNat_add, BitVec.toNat_mul, e1, e2, show (4294967296#64).toNat = 4294967296 from rfl]
  have h1 : b.toNat <<< 32 % 2 ^ 64 = b.toNat <<< 32 := by rw [Nat.shiftLeft_eq]; exact Nat.mod_eq_of_lt (by omega)
  rw [h1, ← Nat.shiftLeft_add_eq_or_of_lt (by omega), Nat.shiftLeft_eq]
  omega
end Go.Proofs.Ytcndbfekcmalmaa.F6

namespace Go.Proofs.Ytcndbfekcmalmaa.F6
open Go Go.Proofs Go.Proofs.YtcndbfekcmalmaaAbs Go.Proofs.YtcndbfekcmalmaaAbs.Flt
set_option maxHeartbeats 4000000
set_option maxRecDepth 100000
def rowsL (x : List (BitVec 64)) : Int := rowsG (uI (x.getD 1 0#64)) (uI (x.getD 2 0#64)) (uI (x.getD 3 0#64))
def endS (x : List (BitVec 64)) (n : Nat) : Bool := getS x && decide (rowsL x = (n : Int) / 8)
def findS (l : List (BitVec 64)) : Value × Bool × Bool := if l.length < 8 ∨ l.length % 8 ≠ 0 then (sv 0 0 0 0#64, false, false) else
  (if endS (l.take 8) l.length = true then resS (l.take 8) else if endS (l.drop (l.length - 8)) l.length = true then resS (l.drop (l.length - 8)) else sv 0 0 0 0#64, endS (l.take 8) l.length, endS (l.drop (l.length - 8)) l.length)
theorem resS_dec (x : List (BitVec 64)) : ∃ (a b c : Int) (w : BitVec 64), resS x = sv a b c w ∧ (getS x = true → rowsL x = rowsG a b c) := by
  unfold resS
  split
  · exact ⟨_, _, _, _, rfl, fun _ => rfl⟩
  · rename_i h; exact ⟨_, _, _, _, rfl, fun k => absurd k h⟩
theorem super_Find (va : Value) (l : List (BitVec 64)) (g : AMem) (n : Nat) (hl : l.length < 4611686018427387904) (hv : rdW g va l) : FnC Try.prog f_super_Find [va] g n (fun _ => False) (.tuple #[(findS l).1, .bool (findS l).2.1, .bool (findS l).2.2]) g n := by
  refine fnC_of_rwp t_super_Find hm rfl fun hdom => ?_
  obtain ⟨pa, ea, hva⟩ := hv.form
  have eq8 : ((l.length : Int).tdiv 8) = (l.length : Int) / 8 := Int.tdiv_eq_ediv_of_nonneg (by omega)
  have er8 : ((l.length : Int).tmod 8) = (l.length : Int) % 8 := Int.tmod_eq_emod_of_nonneg (by omega)
  by_cases c1 : (l.length : Int) < 8
  · have hf : findS l = (sv 0 0 0 0#64, false, false) := by unfold findS; rw [if_pos (Or.inl (by omega))]
    rw [hf]
    simp (maxSteps := 1000000) (disch := first | assumption | omega | rfl | decide | simp only [fitsR, Bool.and_self]) [↓rules, rules, ↓rulesDp, rulesDq, lit_u64, Int.ofNat_inj, stops, rc_super_Find, q_int, q_bool, q_S_uint64, q_uint64, q_geo_Geo, q_super_Super, hva, c1]
    refine done_q hdom (by repeat first | exact Kept.refl hdom | refine Kept.new ?_ _ | refine Kept.drop ?_ (by omega) | refine Kept.put ?_ (by omega) (by omega) _ | refine Kept.skip ?_) rfl ?_
    simp (maxSteps := 1000000) (disch := first | assumption | omega | rfl | decide | simp only [fitsR, Bool.and_self]) [↓rules, rules, ↓rulesDp, rulesDq, lit_u64, Int.ofNat_inj, stops, aResults, aRes, q_int, q_bool, q_S_uint64, q_uint64, q_geo_Geo, q_super_Super]
  by_cases c2 : l.length % 8 = 0
  case neg =>
    have hf : findS l = (sv 0 0 0 0#64, false, false) := by unfold findS; rw [if_pos (Or.inr c2)]
    rw [hf]
    have c2' : ¬ (l.length : Int) % 8 = 0 := by omega
    simp (maxSteps := 1000000) (disch := first | assumption | omega | rfl | decide | simp only [fitsR, Bool.and_self]) [↓rules, rules, ↓rulesDp, rulesDq, lit_u64, Int.ofNat_inj, stops, rc_super_Find, q_int, q_bool, q_S_uint64, q_uint64, q_geo_Geo, q_super_Super, hva, c1, bin_rem, er8, c2']
    refine done_q hdom (by repeat first | exact Kept.refl hdom | refine Kept.new ?_ _ | refine Kept.drop ?_ (by omega) | refine Kept.put ?_ (by omega) (by omega) _ | refine Kept.skip ?_) rfl ?_
    simp (maxSteps := 1000000) (disch := first | assumption | omega | rfl | decide | simp only [fitsR, Bool.and_self]) [↓rules, rules, ↓rulesDp, rulesDq, lit_u64, Int.ofNat_inj, stops, aResults, aRes, q_int, q_bool, q_S_uint64, q_uint64, q_geo_Geo, q_super_Super]
  have c2' : (l.length : Int) % 8 = 0 := by omega
  have hpos : 0 < l.length := by omega
  obtain ⟨b, o, hvb, _, _⟩ := rd_elems hv hpos
  subst hvb
  clear hva
  have w8 : IntKind.i64.wrap ((l.length : Int) - 8) = ((l.length - 8 : Nat) : Int) := by rw [wrap_i64 (by omega) (by omega)]; omega
  have wq : IntKind.i64.wrap ((l.length : Int) / 8) = (l.length : Int) / 8 := wrap_i64 (by omega) (by omega)
  have hf : findS l = (if endS (l.take 8) l.length = true then resS (l.take 8) else if endS (l.drop (l.length - 8)) l.length = true then resS (l.drop (l.length - 8)) else sv 0 0 0 0#64, endS (l.take 8) l.length, endS (l.drop (l.length - 8)) l.length) := by
    unfold findS; rw [if_neg (by omega)]
  rw [hf]
  have hA := rd_part (enc := fun w => [U w]) (fun _ => rfl) hv 0 8 (show 0 + 8 ≤ l.length by omega)
  have hB := rd_part (enc := fun w => [U w]) (fun _ => rfl) hv (l.length - 8) 8 (show l.length - 8 + 8 ≤ l.length by omega)
  simp only [List.drop_zero, Nat.zero_mul, Nat.add_zero, Nat.mul_one] at hA hB
  have hB8 : (l.drop (l.length - 8)).take 8 = l.drop (l.length - 8) := List.take_of_length_le (by rw [List.length_drop]; omega)
  rw [hB8] at hB
  obtain ⟨a1, a2, a3, a4, ra, pa⟩ := resS_dec (l.take 8)
  obtain ⟨b1, b2, b3, b4, rb, pb⟩ := resS_dec (l.drop (l.length - 8))
  have k0 : Kept g n (gset g n (some (.row [.int .i64 0, .int .i64 0, .int .i64 0, U 0#64] true))) (n + 1) := (by repeat first | exact Kept.refl hdom | refine Kept.new ?_ _ | refine Kept.drop ?_ (by omega) | refine Kept.put ?_ (by omega) (by omega) _ | refine Kept.skip ?_)
  have hle8 : (8 : Int) ≤ l.length := by omega
  have hle9 : 8 ≤ l.length := by omega
  have hsub : l.length - (l.length - 8) = 8 := by omega
  have hle4 : l.length - 8 < l.length := by omega
  have hle3 : l.length - 8 ≤ l.length := by omega
  simp (maxSteps := 1000000) (disch := first | assumption | omega | rfl | decide | simp only [fitsR, Bool.and_self]) [↓rules, rules, ↓rulesDp, rulesDq, lit_u64, Int.ofNat_inj, stops, rc_super_Find, q_int, q_bool, q_S_uint64, q_uint64, q_geo_Geo, q_super_Super, c1, bin_rem, er8, c2', hle9]
  refine rcall_quiet rfl (super_Get _ _ _ _ (by rw [List.length_take]; omega) (hA.ext (k0.ext hdom))) ?_
  have k1 : Kept g n (gset (gset g n (some (.row [.int .i64 0, .int .i64 0, .int .i64 0, U 0#64] true))) n (some (.row [.int .i64 a1, .int .i64 a2, .int .i64 a3, U a4] true))) (n + 1) := (Kept.refl hdom).new _ |>.put (by omega) (by omega) _
  rw [gset_gset] at k1
  rw [ra, rb]
  cases sA : getS (l.take 8)
  · have eA : endS (l.take 8) l.length = false := by unfold endS; rw [sA]; rfl
    rw [eA]
    simp (maxSteps := 1000000) (disch := first | assumption | omega | rfl | decide | simp only [fitsR, Bool.and_self]) [↓rules, rules, ↓rulesDp, rulesDq, lit_u64, Int.ofNat_inj, stops, q_int, q_bool, q_S_uint64, q_uint64, q_geo_Geo, q_super_Super, bin_quo, eq8, wq, w8, hle9, hle3, hle4, hsub]
    refine rcall_quiet rfl (super_Get _ _ _ _ (by rw [List.length_drop]; omega) (hB.ext (k1.ext hdom))) ?_
    rw [rb]
    cases sB : getS (l.drop (l.length - 8))
    · have eB : endS (l.drop (l.length - 8)) l.length = false := by unfold endS; rw [sB]; rfl
      rw [eB]
      simp (maxSteps := 1000000) (disch := first | assumption | omega | rfl | decide | simp only [fitsR, Bool.and_self]) [↓rules, rules, ↓rulesDp, rulesDq, lit_u64, Int.ofNat_inj, stops, q_int, q_bool, q_S_uint64, q_uint64, q_geo_Geo, q_super_Super, bin_quo, eq8, wq, w8, hle9, hle3, hle4, hsub]
      refine done_q hdom (by repeat first | exact k1 | refine Kept.new ?_ _ | refine Kept.drop ?_ (by omega) | refine Kept.put ?_ (by omega) (by omega) _ | refine Kept.skip ?_) rfl ?_
      simp (maxSteps := 1000000) (disch := first | assumption | omega | rfl | decide | simp only [fitsR, Bool.and_self]) [↓rules, rules, ↓rulesDp, rulesDq, lit_u64, Int.ofNat_inj, stops, aResults, aRes, q_int, q_bool, q_S_uint64, q_uint64, q_geo_Geo, q_super_Super]
    · simp (maxSteps := 1000000) (disch := first | assumption | omega | rfl | decide | simp only [fitsR, Bool.and_self]) [↓rules, rules, ↓rulesDp, rulesDq, lit_u64, Int.ofNat_inj, stops, q_int, q_bool, q_S_uint64, q_uint64, q_geo_Geo, q_super_Super, bin_quo, eq8, wq, w8, hle9, hle3, hle4, hsub]
      refine rcall_quiet rfl (RowsG b1 b2 b3 _ _) ?_
      by_cases dB : rowsG b1 b2 b3 = (l.length : Int) / 8
      · have eB : endS (l.drop (l.length - 8)) l.length = true := by unfold endS; rw [sB, pb sB, decide_eq_true dB]; rfl
        rw [eB]
        simp (maxSteps := 1000000) (disch := first | assumption | omega | rfl | decide | simp only [fitsR, Bool.and_self]) [↓rules, rules, ↓rulesDp, rulesDq, lit_u64, Int.ofNat_inj, stops, q_int, q_bool, q_S_uint64, q_uint64, q_geo_Geo, q_super_Super, bin_quo, eq8, wq, w8, hle9, hle3, hle4, hsub, dB]
        refine done_q hdom (by repeat first | exact k1 | refine Kept.new ?_ _ | refine Kept.drop ?_ (by omega) | refine Kept.put ?_ (by omega) (by omega) _ | refine Kept.skip ?_) rfl ?_
        simp (maxSteps := 1000000) (disch := first | assumption | omega | rfl | decide | simp only [fitsR, Bool.and_self]) [↓rules, rules, ↓rulesDp, rulesDq, lit_u64, Int.ofNat_inj, stops, aResults, aRes, q_int, q_bool, q_S_uint64, q_uint64, q_geo_Geo, q_super_Super]
      · have eB : endS (l.drop (l.length - 8)) l.length = false := by unfold endS; rw [sB, pb sB, decide_eq_false dB]; rfl
        rw [eB]
        simp (maxSteps := 1000000) (disch := first | assumption | omega | rfl | decide | simp only [fitsR, Bool.and_self]) [↓rules, rules, ↓rulesDp, rulesDq, lit_u64, Int.ofNat_inj, stops, q_int, q_bool, q_S_uint64, q_uint64, q_geo_Geo, q_super_Super, bin_quo, eq8, wq, w8, hle9, hle3, hle4, hsub, dB]
        refine done_q hdom (by repeat first | exact k1 | refine Kept.new ?_ _ | refine Kept.drop ?_ (by omega) | refine Kept.put ?_ (by omega) (by omega) _ | refine Kept.skip ?_) rfl ?_
        simp (maxSteps := 1000000) (disch := first | assumption | omega | rfl | decide | simp only [fitsR, Bool.and_self]) [↓rules, rules, ↓rulesDp, rulesDq, lit_u64, Int.ofNat_inj, stops, aResults, aRes, q_int, q_bool, q_S_uint64, q_uint64, q_geo_Geo, q_super_Super]
  · simp (maxSteps := 1000000) (disch := first | assumption | omega | rfl | decide | simp only [fitsR, Bool.and_self]) [↓rules, rules, ↓rulesDp, rulesDq, lit_u64, Int.ofNat_inj, stops, q_int, q_bool, q_S_uint64, q_uint64, q_geo_Geo, q_super_Super, bin_quo, eq8, wq, w8, hle9, hle3, hle4, hsub]
    refine rcall_quiet rfl (RowsG a1 a2 a3 _ _) ?_
    by_cases dA : rowsG a1 a2 a3 = (l.length : Int) / 8
    · have eA : endS (l.take 8) l.length = true := by unfold endS; rw [sA, pa sA, decide_eq_true dA]; rfl
      rw [eA]
      simp (maxSteps := 1000000) (disch := first | assumption | omega | rfl | decide | simp only [fitsR, Bool.and_self]) [↓rules, rules, ↓rulesDp, rulesDq, lit_u64, Int.ofNat_inj, stops, q_int, q_bool, q_S_uint64, q_uint64, q_geo_Geo, q_super_Super, bin_quo, eq8, wq, w8, hle9, hle3, hle4, hsub, dA]
      refine rcall_quiet rfl (super_Get _ _ _ _ (by rw [List.length_drop]; omega) (hB.ext (k1.ext hdom))) ?_
      rw [rb]
      cases sB : getS (l.drop (l.length - 8))
      · have eB : endS (l.drop (l.length - 8)) l.length = false := by unfold endS; rw [sB]; rfl
        rw [eB]
        simp (maxSteps := 1000000) (disch := first | assumption | omega | rfl | decide | simp only [fitsR, Bool.and_self]) [↓rules, rules, ↓rulesDp, rulesDq, lit_u64, Int.ofNat_inj, stops, q_int, q_bool, q_S_uint64, q_uint64, q_geo_Geo, q_super_Super, bin_quo, eq8, wq, w8, hle9, hle3, hle4, hsub]
        refine done_q hdom (by repeat first | exact k1 | refine Kept.new ?_ _ | refine Kept.drop ?_ (by omega) | refine Kept.put ?_ (by omega) (by omega) _ | refine Kept.skip ?_) rfl ?_
        simp (maxSteps := 1000000) (disch := first | assumption | omega | rfl | decide | simp only [fitsR, Bool.and_self]) [↓rules, rules, ↓rulesDp, rulesDq, lit_u64, Int.ofNat_inj, stops, aResults, aRes, q_int, q_bool, q_S_uint64, q_uint64, q_geo_Geo, q_super_Super]
      · simp (maxSteps := 1000000) (disch := first | assumption | omega | rfl | decide | simp only [fitsR, Bool.and_self]) [↓rules, rules, ↓rulesDp, rulesDq, lit_u64, Int.ofNat_inj, stops, q_int, q_bool, q_S_uint64, q_uint64, q_geo_Geo, q_super_Super, bin_quo, eq8, wq, w8, hle9, hle3, hle4, hsub]
        refine rcall_quiet rfl (RowsG b1 b2 b3 _ _) ?_
        by_cases dB : rowsG b1 b2 b3 = (l.length : Int) / 8
        · have eB : endS (l.drop (l.length - 8)) l.length = true := by unfold endS; rw [sB, pb sB, decide_eq_true dB]; rfl
          rw [eB]
          simp (maxSteps := 1000000) (disch := first | assumption | omega | rfl | decide | simp only [fitsR, Bool.and_self]) [↓rules, rules, ↓rulesDp, rulesDq, lit_u64, Int.ofNat_inj, stops, q_int, q_bool, q_S_uint64, q_uint64, q_geo_Geo, q_super_Super, bin_quo, eq8, wq, w8, hle9, hle3, hle4, hsub, dB]
          refine done_q hdom (by repeat first | exact k1 | refine Kept.new ?_ _ | refine Kept.drop ?_ (by omega) | refine Kept.put ?_ (by omega) (by omega) _ | refine Kept.skip ?_) rfl ?_
          simp (maxSteps := 1000000) (disch := first | assumption | omega | rfl | decide | simp only [fitsR, Bool.and_self]) [↓rules, rules, ↓rulesDp, rulesDq, lit_u64, Int.ofNat_inj, stops, aResults, aRes, q_int, q_bool, q_S_uint64, q_uint64, q_geo_Geo, q_super_Super]
        · have eB : endS (l.drop (l.length - 8)) l.length = false := by unfold endS; rw [sB, pb sB, decide_eq_false dB]; rfl
          rw [eB]
          simp (maxSteps := 1000000) (disch := first | assumption | omega | rfl | decide | simp only [fitsR, Bool.and_self]) [↓rules, rules, ↓rulesDp, rulesDq, lit_u64, Int.ofNat_inj, stops, q_int, q_bool, q_S_uint64, q_uint64, q_geo_Geo, q_super_Super, bin_quo, eq8, wq, w8, hle9, hle3, hle4, hsub, dB]
          refine done_q hdom (by repeat first | exact k1 | refine Kept.new ?_ _ | refine Kept.drop ?_ (by omega) | refine Kept.put ?_ (by omega) (by omega) _ | refine Kept.skip ?_) rfl ?_
          simp (maxSteps := 1000000) (disch := first | assumption | omega | rfl | decide | simp only [fitsR, Bool.and_self]) [↓rules, rules, ↓rulesDp, rulesDq, lit_u64, Int.ofNat_inj, stops, aResults, aRes, q_int, q_bool, q_S_uint64, q_uint64, q_geo_Geo, q_super_Super]
    · have eA : endS (l.take 8) l.length = false := by unfold endS; rw [sA, pa sA, decide_eq_false dA]; rfl
      rw [eA]
      simp (maxSteps := 1000000) (disch := first | assumption | omega | rfl | decide | simp only [fitsR, Bool.and_self]) [↓rules, rules, ↓rulesDp, rulesDq, lit_u64, Int.ofNat_inj, stops, q_int, q_bool, q_S_uint64, q_uint64, q_geo_Geo, q_super_Super, bin_quo, eq8, wq, w8, hle9, hle3, hle4, hsub, dA]
      refine rcall_quiet rfl (super_Get _ _ _ _ (by rw [List.length_drop]; omega) (hB.ext (k1.ext hdom))) ?_
      rw [rb]
      cases sB : getS (l.drop (l.length - 8))
      · have eB : endS (l.drop (l.length - 8)) l.length = false := by unfold endS; rw [sB]; rfl
        rw [eB]
        simp (maxSteps := 1000000) (disch := first | assumption | omega | rfl | decide | simp only [fitsR, Bool.and_self]) [↓rules, rules, ↓rulesDp, rulesDq, lit_u64, Int.ofNat_inj, stops, q_int, q_bool, q_S_uint64, q_uint64, q_geo_Geo, q_super_Super, bin_quo, eq8, wq, w8, hle9, hle3, hle4, hsub]
        refine done_q hdom (by repeat first | exact k1 | refine Kept.new ?_ _ | refine Kept.drop ?_ (by omega) | refine Kept.put ?_ (by omega) (by omega) _ | refine Kept.skip ?_) rfl ?_
        simp (maxSteps := 1000000) (disch := first | assumption | omega | rfl | decide | simp only [fitsR, Bool.and_self]) [↓rules, rules, ↓rulesDp, rulesDq, lit_u64, Int.ofNat_inj, stops, aResults, aRes, q_int, q_bool, q_S_uint64, q_uint64, q_geo_Geo, q_super_Super]
      · simp (maxSteps := 1000000) (disch := first | assumption | omega | rfl | decide | simp only [fitsR, Bool.and_self]) [↓rules, rules, ↓rulesDp, rulesDq, lit_u64, Int.ofNat_inj, stops, q_int, q_bool, q_S_uint64, q_uint64, q_geo_Geo, q_super_Super, bin_quo, eq8, wq, w8, hle9, hle3, hle4, hsub]
        refine rcall_quiet rfl (RowsG b1 b2 b3 _ _) ?_
        by_cases dB : rowsG b1 b2 b3 = (l.length : Int) / 8
        · have eB : endS (l.drop (l.length - 8)) l.length = true := by unfold endS; rw [sB, pb sB, decide_eq_true dB]; rfl
          rw [eB]
          simp (maxSteps := 1000000) (disch := first | assumption | omega | rfl | decide | simp only [fitsR, Bool.and_self]) [↓rules, rules, ↓rulesDp, rulesDq, lit_u64, Int.ofNat_inj, stops, q_int, q_bool, q_S_uint64, q_uint64, q_geo_Geo, q_super_Super, bin_quo, eq8, wq, w8, hle9, hle3, hle4, hsub, dB]
          refine done_q hdom (by repeat first | exact k1 | refine Kept.new ?_ _ | refine Kept.drop ?_ (by omega) | refine Kept.put ?_ (by omega) (by omega) _ | refine Kept.skip ?_) rfl ?_
          simp (maxSteps := 1000000) (disch := first | assumption | omega | rfl | decide | simp only [fitsR, Bool.and_self]) [↓rules, rules, ↓rulesDp, rulesDq, lit_u64, Int.ofNat_inj, stops, aResults, aRes, q_int, q_bool, q_S_uint64, q_uint64, q_geo_Geo, q_super_Super]
        · have eB : endS (l.drop (l.length - 8)) l.length = false := by unfold endS; rw [sB, pb sB, decide_eq_false dB]; rfl
          rw [eB]
          simp (maxSteps := 1000000) (disch := first | assumption | omega | rfl | decide | simp only [fitsR, Bool.and_self]) [↓rules, rules, ↓rulesDp, rulesDq, lit_u64, Int.ofNat_inj, stops, q_int, q_bool, q_S_uint64, q_uint64, q_geo_Geo, q_super_Super, bin_quo, eq8, wq, w8, hle9, hle3, hle4, hsub, dB]
          refine done_q hdom (by repeat first | exact k1 | refine Kept.new ?_ _ | refine Kept.drop ?_ (by omega) | refine Kept.put ?_ (by omega) (by omega) _ | refine Kept.skip ?_) rfl ?_
          simp (maxSteps := 1000000) (disch := first | assumption | omega | rfl | decide | simp only [fitsR, Bool.and_self]) [↓rules, rules, ↓rulesDp, rulesDq, lit_u64, Int.ofNat_inj, stops, aResults, aRes, q_int, q_bool, q_S_uint64, q_uint64, q_geo_Geo, q_super_Super]
end Go.Proofs.Ytcndbfekcmalmaa.F6

namespace Go.Proofs.Ytcndbfekcmalmaa.F6
open Go Go.Proofs Go.Proofs.YtcndbfekcmalmaaAbs Go.Proofs.YtcndbfekcmalmaaAbs.Flt
set_option maxHeartbeats 4000000
set_option maxRecDepth 100000
theorem ref_PutSuper (a b c : Int) (w : BitVec 64) (g : AMem) (n : Nat) (hdom : ∀ i, g i ≠ none → i < n) : FnS Try.prog f_reeveref1_PutSuper [sv a b c w] g n (fun _ => False) fun v g' n' => rdW g' v (putS a b c w) ∧ Kept g n g' n' := by
  refine fnS_of_rwp t_reeveref1_PutSuper hm rfl hdom ?_
  simp (maxSteps := 1000000) (disch := first | assumption | omega | rfl | decide | simp only [fitsR, Bool.and_self]) [↓rules, rules, ↓rulesDp, rulesDq, lit_u64, Int.ofNat_inj, stops, rc_reeveref1_PutSuper, q_int64, q_int, q_bool, q_S_uint64, q_uint64, q_reeveref1_Geo, q_reeveref1_Super]
  refine rcall_quiet rfl (GoodR a b c _ _) ?_
  cases cg : goodG a b c
  · simp (maxSteps := 1000000) (disch := first | assumption | omega | rfl | decide | simp only [fitsR, Bool.and_self]) [↓rules, rules, ↓rulesDp, rulesDq, lit_u64, Int.ofNat_inj, stops, q_int64, q_int, q_bool, q_S_uint64, q_uint64, q_reeveref1_Geo, q_reeveref1_Super]
    refine sdone_ret rfl ⟨?_, (Kept.refl hdom).new _⟩
    rw [putS, if_neg (by simp [cg])]; exact Rd.nil
  simp (maxSteps := 1000000) (disch := first | assumption | omega | rfl | decide | simp only [fitsR, Bool.and_self]) [↓rules, rules, ↓rulesDp, rulesDq, lit_u64, Int.ofNat_inj, stops, q_int64, q_int, q_bool, q_S_uint64, q_uint64, q_reeveref1_Geo, q_reeveref1_Super, conv_to_u64 tu_int tu_uint64]
  refine rcall_quiet rfl (ref_Sum (ws := supL a b c w) (by simp [supL]) _ _ (rd_map (ws := supL a b c w) (r := true) (if_pos rfl) rfl)) ?_
  have s := spin_in (supL a b c w) (0, 0) ⟨by decide, by decide⟩ ⟨by decide, by decide⟩
  have hs : BitVec.ofInt 64 (spinI (0, 0) (supL a b c w)).2 * 4294967296#64 + BitVec.ofInt 64 (spinI (0, 0) (supL a b c w)).1 = sealW (supL a b c w) := word_sum (by omega) (by omega)
  simp (maxSteps := 1000000) (disch := first | assumption | omega | rfl | decide | simp only [fitsR, Bool.and_self]) [↓rules, rules, ↓rulesDp, rulesDq, lit_u64, Int.ofNat_inj, stops, q_int64, q_int, q_bool, q_S_uint64, q_uint64, q_reeveref1_Geo, q_reeveref1_Super, conv_to_u64 tu_int64 tu_uint64, hs]
  refine sdone_ret rfl ⟨?_, (by repeat first | exact Kept.refl hdom | refine Kept.new ?_ _ | refine Kept.drop ?_ (by omega) | refine Kept.put ?_ (by omega) (by omega) _ | refine Kept.skip ?_)⟩
  rw [putS, if_pos cg]
  exact rd_map (ws := supL a b c w ++ [sealW (supL a b c w)]) (r := true) (if_pos rfl) rfl
theorem own_geo (a b c : Int) (g : AMem) (n : Nat) : FnC Try.prog f_reevelaw6_geoOf [gv a b c] g n (fun _ => False) (gv a b c) g n := by
  refine fnC_of_rwp t_reevelaw6_geoOf hm rfl fun hdom => ?_
  simp (maxSteps := 1000000) (disch := first | assumption | omega | rfl | decide | simp only [fitsR, Bool.and_self]) [↓rules, rules, ↓rulesDp, rulesDq, lit_u64, Int.ofNat_inj, stops, rc_reevelaw6_geoOf, q_int, q_geo_Geo, q_reeveref1_Geo]
  refine done_q hdom (by repeat first | exact Kept.refl hdom | refine Kept.new ?_ _ | refine Kept.drop ?_ (by omega) | refine Kept.put ?_ (by omega) (by omega) _ | refine Kept.skip ?_) rfl ?_
  first | rfl | simp (maxSteps := 1000000) (disch := first | assumption | omega | rfl | decide | simp only [fitsR, Bool.and_self]) [↓rules, rules, ↓rulesDp, rulesDq, lit_u64, Int.ofNat_inj, stops, aResults, aRes, q_int, q_geo_Geo, q_reeveref1_Geo]
theorem own_super (a b c : Int) (w : BitVec 64) (g : AMem) (n : Nat) : FnC Try.prog f_reevelaw6_own [sv a b c w] g n (fun _ => False) (sv a b c w) g n := by
  refine fnC_of_rwp t_reevelaw6_own hm rfl fun hdom => ?_
  simp (maxSteps := 1000000) (disch := first | assumption | omega | rfl | decide | simp only [fitsR, Bool.and_self]) [↓rules, rules, ↓rulesDp, rulesDq, lit_u64, Int.ofNat_inj, stops, rc_reevelaw6_own, q_int, q_uint64, q_geo_Geo, q_super_Super, q_reeveref1_Geo, q_reeveref1_Super]
  refine rcall_quiet rfl (own_geo a b c _ _) ?_
  simp (maxSteps := 1000000) (disch := first | assumption | omega | rfl | decide | simp only [fitsR, Bool.and_self]) [↓rules, rules, ↓rulesDp, rulesDq, lit_u64, Int.ofNat_inj, stops, q_int, q_uint64, q_geo_Geo, q_super_Super, q_reeveref1_Geo, q_reeveref1_Super]
  refine done_q hdom (by repeat first | exact Kept.refl hdom | refine Kept.new ?_ _ | refine Kept.drop ?_ (by omega) | refine Kept.put ?_ (by omega) (by omega) _ | refine Kept.skip ?_) rfl ?_
  first | rfl | simp (maxSteps := 1000000) (disch := first | assumption | omega | rfl | decide | simp only [fitsR, Bool.and_self]) [↓rules, rules, ↓rulesDp, rulesDq, lit_u64, Int.ofNat_inj, stops, aResults, aRes, q_int, q_uint64, q_geo_Geo, q_super_Super, q_reeveref1_Geo, q_reeveref1_Super]
theorem ref_GetSuper (va : Value) (l : List (BitVec 64)) (g : AMem) (n : Nat) (hl : l.length < 4611686018427387904) (hv : rdW g va l) : FnC Try.prog f_reeveref1_GetSuper [va] g n (fun _ => False) (.tuple #[resS l, .bool (getS l)]) g n := by
  refine fnC_of_rwp t_reeveref1_GetSuper hm rfl fun hdom => ?_
  by_cases c0 : l.length = 8
  case neg =>
    obtain ⟨pa, ea, hva⟩ := hv.form
    rw [resS_no (getS_short c0), getS_short c0]
    have c0' : ¬ (l.length : Int) = 8 := by omega
    simp (maxSteps := 1000000) (disch := first | assumption | omega | rfl | decide | simp only [fitsR, Bool.and_self]) [↓rules, rules, ↓rulesDp, rulesDq, lit_u64, Int.ofNat_inj, stops, rc_reeveref1_GetSuper, q_int, q_bool, q_S_uint64, q_uint64, q_reeveref1_Geo, q_reeveref1_Super, hva, c0']
    refine done_q hdom (by repeat first | exact Kept.refl hdom | refine Kept.new ?_ _ | refine Kept.drop ?_ (by omega) | refine Kept.put ?_ (by omega) (by omega) _ | refine Kept.skip ?_) rfl ?_
    simp (maxSteps := 1000000) (disch := first | assumption | omega | rfl | decide | simp only [fitsR, Bool.and_self]) [↓rules, rules, ↓rulesDp, rulesDq, lit_u64, Int.ofNat_inj, stops, aResults, aRes, q_int, q_bool, q_S_uint64, q_uint64, q_reeveref1_Geo, q_reeveref1_Super]
  obtain ⟨w0, w1, w2, w3, w4, w5, w6, w7, rfl⟩ := eight c0
  obtain ⟨b, o, hva, hb, he⟩ := rd_elems hv (by simp)
  have k0 : Kept g n (gset g n (some (.row [.int .i64 0, .int .i64 0, .int .i64 0, U 0#64] true))) (n + 1) := (by repeat first | exact Kept.refl hdom | refine Kept.new ?_ _ | refine Kept.drop ?_ (by omega) | refine Kept.put ?_ (by omega) (by omega) _ | refine Kept.skip ?_)
  have e1 := he 1 (by simp) _ (k0.ext hdom) Try.prog _ ta_uint64
  have e2 := he 2 (by simp) _ (k0.ext hdom) Try.prog _ ta_uint64
  have e3 := he 3 (by simp) _ (k0.ext hdom) Try.prog _ ta_uint64
  have e4 := he 4 (by simp) _ (k0.ext hdom) Try.prog _ ta_uint64
  simp only [List.getElem_cons_succ, List.getElem_cons_zero] at e1 e2 e3 e4
  simp only [List.length_cons, List.length_nil] at hva
  have h0 : ∀ x : BitVec 64, 0 ≤ uI x := fun x => by unfold uI; omega
  have hlt : ∀ x : BitVec 64, 99#64 < x ↔ 99 < uI x := fun x => by rw [BitVec.lt_def]; unfold uI; simp; omega
  have bad : 99 < uI w1 ∨ 99 < uI w2 ∨ 99 < uI w3 → getS [w0, w1, w2, w3, w4, w5, w6, w7] = false := fun hc => by
    refine decide_eq_false fun h => ?_
    have h := h.2
    simp only [List.getD_cons_succ, List.getD_cons_zero] at h
    unfold putS at h
    rw [if_neg (fun hg => by have := goodG_iff.1 hg; omega)] at h
    cases h
  by_cases c1 : 99#64 < w1
  · rw [resS_no (bad (.inl ((hlt _).1 c1))), bad (.inl ((hlt _).1 c1))]
    simp (maxSteps := 1000000) (disch := first | assumption | omega | rfl | decide | simp only [fitsR, Bool.and_self]) [↓rules, rules, ↓rulesDp, rulesDq, lit_u64, Int.ofNat_inj, stops, rc_reeveref1_GetSuper, q_int, q_bool, q_S_uint64, q_uint64, q_reeveref1_Geo, q_reeveref1_Super, hva, e1, e2, e3, e4, c1]
    refine done_q hdom (by repeat first | exact Kept.refl hdom | refine Kept.new ?_ _ | refine Kept.drop ?_ (by omega) | refine Kept.put ?_ (by omega) (by omega) _ | refine Kept.skip ?_) rfl ?_
    simp (maxSteps := 1000000) (disch := first | assumption | omega | rfl | decide | simp only [fitsR, Bool.and_self]) [↓rules, rules, ↓rulesDp, rulesDq, lit_u64, Int.ofNat_inj, stops, aResults, aRes, q_int, q_bool, q_S_uint64, q_uint64, q_reeveref1_Geo, q_reeveref1_Super]
  by_cases c2 : 99#64 < w2
  · rw [resS_no (bad (.inr (.inl ((hlt _).1 c2)))), bad (.inr (.inl ((hlt _).1 c2)))]
    simp (maxSteps := 1000000) (disch := first | assumption | omega | rfl | decide | simp only [fitsR, Bool.and_self]) [↓rules, rules, ↓rulesDp, rulesDq, lit_u64, Int.ofNat_inj, stops, rc_reeveref1_GetSuper, q_int, q_bool, q_S_uint64, q_uint64, q_reeveref1_Geo, q_reeveref1_Super, hva, e1, e2, e3, e4, c1, c2]
    refine done_q hdom (by repeat first | exact Kept.refl hdom | refine Kept.new ?_ _ | refine Kept.drop ?_ (by omega) | refine Kept.put ?_ (by omega) (by omega) _ | refine Kept.skip ?_) rfl ?_
    simp (maxSteps := 1000000) (disch := first | assumption | omega | rfl | decide | simp only [fitsR, Bool.and_self]) [↓rules, rules, ↓rulesDp, rulesDq, lit_u64, Int.ofNat_inj, stops, aResults, aRes, q_int, q_bool, q_S_uint64, q_uint64, q_reeveref1_Geo, q_reeveref1_Super]
  by_cases c3 : 99#64 < w3
  · rw [resS_no (bad (.inr (.inr ((hlt _).1 c3)))), bad (.inr (.inr ((hlt _).1 c3)))]
    simp (maxSteps := 1000000) (disch := first | assumption | omega | rfl | decide | simp only [fitsR, Bool.and_self]) [↓rules, rules, ↓rulesDp, rulesDq, lit_u64, Int.ofNat_inj, stops, rc_reeveref1_GetSuper, q_int, q_bool, q_S_uint64, q_uint64, q_reeveref1_Geo, q_reeveref1_Super, hva, e1, e2, e3, e4, c1, c2, c3]
    refine done_q hdom (by repeat first | exact Kept.refl hdom | refine Kept.new ?_ _ | refine Kept.drop ?_ (by omega) | refine Kept.put ?_ (by omega) (by omega) _ | refine Kept.skip ?_) rfl ?_
    simp (maxSteps := 1000000) (disch := first | assumption | omega | rfl | decide | simp only [fitsR, Bool.and_self]) [↓rules, rules, ↓rulesDp, rulesDq, lit_u64, Int.ofNat_inj, stops, aResults, aRes, q_int, q_bool, q_S_uint64, q_uint64, q_reeveref1_Geo, q_reeveref1_Super]
  have d1 : ¬ 99 < uI w1 := fun h => c1 ((hlt w1).2 h)
  have d2 : ¬ 99 < uI w2 := fun h => c2 ((hlt w2).2 h)
  have d3 : ¬ 99 < uI w3 := fun h => c3 ((hlt w3).2 h)
  have v1 : IntKind.i64.wrap (uI w1) = uI w1 := wrap_i64 (by have := h0 w1; omega) (by omega)
  have v2 : IntKind.i64.wrap (uI w2) = uI w2 := wrap_i64 (by have := h0 w2; omega) (by omega)
  have v3 : IntKind.i64.wrap (uI w3) = uI w3 := wrap_i64 (by have := h0 w3; omega) (by omega)
  simp (maxSteps := 1000000) (disch := first | assumption | omega | rfl | decide | simp only [fitsR, Bool.and_self]) [↓rules, rules, ↓rulesDp, rulesDq, lit_u64, Int.ofNat_inj, stops, rc_reeveref1_GetSuper, q_int, q_bool, q_S_uint64, q_uint64, q_reeveref1_Geo, q_reeveref1_Super, hva, e1, e2, e3, e4, c1, c2, c3, conv_of_u64 tu_uint64 tu_int, v1, v2, v3]
  have k1 : Kept g n (gset (gset g n (some (.row [.int .i64 0, .int .i64 0, .int .i64 0, U 0#64] true))) (n + 1) (some (.row [.int .i64 (uI w1), .int .i64 (uI w2), .int .i64 (uI w3), U w4] true))) (n + 1 + 1) := (by repeat first | exact Kept.refl hdom | refine Kept.new ?_ _ | refine Kept.drop ?_ (by omega) | refine Kept.put ?_ (by omega) (by omega) _ | refine Kept.skip ?_)
  refine rcall_spec (ref_PutSuper _ _ _ _ _ _ k1.dom) rfl (fun _ h => h.elim) rfl fun vp g2 n2 ⟨r2, k2⟩ => ?_
  have hn1 := k2.same (n + 1) (by omega)
  rw [gset, if_pos rfl] at hn1
  have hn0 := k2.same n (by omega)
  rw [gset, if_neg (by omega), gset, if_pos rfl] at hn0
  have k12 := k1.trans k2
  have hle := k2.le
  have hgs : getS [w0, w1, w2, w3, w4, w5, w6, w7] = decide (putS (uI w1) (uI w2) (uI w3) w4 = [w0, w1, w2, w3, w4, w5, w6, w7]) := by
    unfold getS
    simp only [List.getD_cons_succ, List.getD_cons_zero, c0, true_and]
  have hlen : (putS (uI w1) (uI w2) (uI w3) w4).length = 8 ∨ (putS (uI w1) (uI w2) (uI w3) w4) = [] := by
    unfold putS
    split
    · left; simp [supL]
    · right; rfl
  have hres : getS [w0, w1, w2, w3, w4, w5, w6, w7] = true → resS [w0, w1, w2, w3, w4, w5, w6, w7] = sv (uI w1) (uI w2) (uI w3) w4 := fun cg => by unfold resS; rw [if_pos cg]; rfl
  generalize putS (uI w1) (uI w2) (uI w3) w4 = p at *
  generalize hL : [w0, w1, w2, w3, w4, w5, w6, w7] = L at *
  obtain ⟨pp, pe, hvp⟩ := r2.form
  rcases hlen with hp8 | hp0
  case inr =>
    subst hp0
    have hno : getS L = false := by rw [hgs]; refine decide_eq_false fun h => ?_; rw [← h] at c0; simp at c0
    rw [resS_no hno, hno]
    simp only [List.length_nil] at hvp
    simp (maxSteps := 1000000) (disch := first | assumption | omega | rfl | decide | simp only [fitsR, Bool.and_self]) [↓rules, rules, ↓rulesDp, rulesDq, lit_u64, Int.ofNat_inj, stops, q_int, q_bool, q_S_uint64, q_uint64, q_reeveref1_Geo, q_reeveref1_Super, hvp, hn0, hn1]
    refine done_q hdom (by repeat first | exact k12 | refine Kept.new ?_ _ | refine Kept.drop ?_ (by omega) | refine Kept.put ?_ (by omega) (by omega) _ | refine Kept.skip ?_) rfl ?_
    simp (maxSteps := 1000000) (disch := first | assumption | omega | rfl | decide | simp only [fitsR, Bool.and_self]) [↓rules, rules, ↓rulesDp, rulesDq, lit_u64, Int.ofNat_inj, stops, aResults, aRes, q_int, q_bool, q_S_uint64, q_uint64, q_reeveref1_Geo, q_reeveref1_Super]
  rw [hp8] at hvp
  obtain ⟨b2, o2, hvq, _, hq⟩ := rd_elems r2 (by omega)
  simp (maxSteps := 1000000) (disch := first | assumption | omega | rfl | decide | simp only [fitsR, Bool.and_self]) [↓rules, rules, ↓rulesDp, rulesDq, lit_u64, Int.ofNat_inj, stops, q_int, q_bool, q_S_uint64, q_uint64, q_reeveref1_Geo, q_reeveref1_Super, hvp, hn0, hn1]
  rw [← hvp]
  refine rwp_loop (fun j r g' n' => ∃ i : Nat, j = 8 - i ∧ i ≤ 8 ∧ g' = g2 ∧ n' = n2 ∧ p.take i = L.take i ∧ r = [(0, .slice (some ⟨b, o, none⟩) 8 1), (2, .pointer (some ⟨n, 0, none⟩)), (4, .pointer (some ⟨n + 1, 0, none⟩)), (5, vp), (6, .int .i64 i)]) ?_ (k := 8) ?_
  · rintro j r g' n' ⟨i, rfl, hi, rfl, rfl, he8, rfl⟩
    simp (maxSteps := 1000000) (disch := first | assumption | omega | rfl | decide | simp only [fitsR, Bool.and_self]) [↓rules, rules, ↓rulesDp, rulesDq, lit_u64, Int.ofNat_inj, stops, rc_reeveref1_GetSuperl0, q_int, q_bool, q_S_uint64, q_uint64, q_reeveref1_Geo, q_reeveref1_Super]
    refine rcond_dec (fun hlt => ?_) (fun hlt => ?_)
    · have hi8 : i < 8 := by omega
      have hiL : i < L.length := by omega
      have hip : i < p.length := by omega
      have x1 := hq i hip g' (Ext.refl _) Try.prog _ ta_uint64
      have x2 := he i hiL g' (k12.ext hdom) Try.prog _ ta_uint64
      have w2' : IntKind.i64.wrap ((i : Int) + 1) = (i : Int) + 1 := wrap_i64 (by omega) (by omega)
      have htake : ∀ (zs : List (BitVec 64)) (h : i < zs.length), zs.take (i + 1) = zs.take i ++ [zs[i]] := fun zs h => by rw [List.take_add_one, List.getElem?_eq_getElem h]; rfl
      rw [hvq, hp8]
      by_cases ceq : p[i] = L[i]
      · simp (maxSteps := 1000000) (disch := first | assumption | omega | rfl | decide | simp only [fitsR, Bool.and_self]) [↓rules, rules, ↓rulesDp, rulesDq, lit_u64, Int.ofNat_inj, stops, q_int, q_bool, q_S_uint64, q_uint64, q_reeveref1_Geo, q_reeveref1_Super, x1, x2, hlt, hi8, ceq, w2']
        refine ⟨8 - (i + 1), by omega, i + 1, rfl, by omega, ?_⟩
        exact ⟨by rw [htake p hip, htake L hiL, he8, ceq], by omega⟩
      · have hno : getS L = false := by rw [hgs]; refine decide_eq_false fun h => ?_; subst h; exact ceq rfl
        rw [resS_no hno, hno]
        simp (maxSteps := 1000000) (disch := first | assumption | omega | rfl | decide | simp only [fitsR, Bool.and_self]) [↓rules, rules, ↓rulesDp, rulesDq, lit_u64, Int.ofNat_inj, stops, q_int, q_bool, q_S_uint64, q_uint64, q_reeveref1_Geo, q_reeveref1_Super, x1, x2, hlt, hi8, ceq, hn0, hn1]
        refine done_q hdom (by repeat first | exact k12 | refine Kept.new ?_ _ | refine Kept.drop ?_ (by omega) | refine Kept.put ?_ (by omega) (by omega) _ | refine Kept.skip ?_) rfl ?_
        simp (maxSteps := 1000000) (disch := first | assumption | omega | rfl | decide | simp only [fitsR, Bool.and_self]) [↓rules, rules, ↓rulesDp, rulesDq, lit_u64, Int.ofNat_inj, stops, aResults, aRes, q_int, q_bool, q_S_uint64, q_uint64, q_reeveref1_Geo, q_reeveref1_Super]
    · have hi8 : i = 8 := by omega
      subst hi8
      rw [List.take_of_length_le (by omega), List.take_of_length_le (by omega)] at he8
      have hyes : getS L = true := by rw [hgs]; exact decide_eq_true he8
      rw [hres hyes, hyes]
      simp (maxSteps := 1000000) (disch := first | assumption | omega | rfl | decide | simp only [fitsR, Bool.and_self]) [↓rules, rules, ↓rulesDp, rulesDq, lit_u64, Int.ofNat_inj, stops, q_int, q_bool, q_S_uint64, q_uint64, q_reeveref1_Geo, q_reeveref1_Super, hn0, hn1]
      refine done_q hdom (by repeat first | exact k12 | refine Kept.new ?_ _ | refine Kept.drop ?_ (by omega) | refine Kept.put ?_ (by omega) (by omega) _ | refine Kept.skip ?_) rfl ?_
      simp (maxSteps := 1000000) (disch := first | assumption | omega | rfl | decide | simp only [fitsR, Bool.and_self]) [↓rules, rules, ↓rulesDp, rulesDq, lit_u64, Int.ofNat_inj, stops, aResults, aRes, q_int, q_bool, q_S_uint64, q_uint64, q_reeveref1_Geo, q_reeveref1_Super]
  · exact ⟨0, by simp, by simp, rfl, rfl, by simp, by rfl⟩
end Go.Proofs.Ytcndbfekcmalmaa.F6

namespace Go.Proofs.Ytcndbfekcmalmaa.F6
open Go Go.Proofs Go.Proofs.YtcndbfekcmalmaaAbs Go.Proofs.YtcndbfekcmalmaaAbs.Flt
set_option maxHeartbeats 4000000
set_option maxRecDepth 100000
theorem rowsG_in (a b c : Int) : 0 ≤ rowsG a b c ∧ rowsG a b c ≤ 10000 := by
  unfold rowsG copyG
  split
  · rename_i h
    have := goodG_iff.1 h
    try rw [if_pos h]
    omega
  · omega
theorem ref_Find (va : Value) (l : List (BitVec 64)) (g : AMem) (n : Nat) (hl : l.length < 4611686018427387904) (hv : rdW g va l) : FnC Try.prog f_reeveref1_Find [va] g n (fun _ => False) (.tuple #[(findS l).1, .bool (findS l).2.1, .bool (findS l).2.2]) g n := by
  refine fnC_of_rwp t_reeveref1_Find hm rfl fun hdom => ?_
  obtain ⟨pa, ea, hva⟩ := hv.form
  have eq8 : ((l.length : Int).tdiv 8) = (l.length : Int) / 8 := Int.tdiv_eq_ediv_of_nonneg (by omega)
  have er8 : ((l.length : Int).tmod 8) = (l.length : Int) % 8 := Int.tmod_eq_emod_of_nonneg (by omega)
  by_cases c1 : (l.length : Int) < 8
  · have hf : findS l = (sv 0 0 0 0#64, false, false) := by unfold findS; rw [if_pos (Or.inl (by omega))]
    rw [hf]
    simp (maxSteps := 1000000) (disch := first | assumption | omega | rfl | decide | simp only [fitsR, Bool.and_self]) [↓rules, rules, ↓rulesDp, rulesDq, lit_u64, Int.ofNat_inj, stops, rc_reeveref1_Find, q_int, q_bool, q_S_uint64, q_uint64, q_reeveref1_Geo, q_reeveref1_Super, hva, c1]
    refine done_q hdom (by repeat first | exact Kept.refl hdom | refine Kept.new ?_ _ | refine Kept.drop ?_ (by omega) | refine Kept.put ?_ (by omega) (by omega) _ | refine Kept.skip ?_) rfl ?_
    simp (maxSteps := 1000000) (disch := first | assumption | omega | rfl | decide | simp only [fitsR, Bool.and_self]) [↓rules, rules, ↓rulesDp, rulesDq, lit_u64, Int.ofNat_inj, stops, aResults, aRes, q_int, q_bool, q_S_uint64, q_uint64, q_reeveref1_Geo, q_reeveref1_Super]
  by_cases c2 : l.length % 8 = 0
  case neg =>
    have hf : findS l = (sv 0 0 0 0#64, false, false) := by unfold findS; rw [if_pos (Or.inr c2)]
    rw [hf]
    have c2' : ¬ (l.length : Int) % 8 = 0 := by omega
    simp (maxSteps := 1000000) (disch := first | assumption | omega | rfl | decide | simp only [fitsR, Bool.and_self]) [↓rules, rules, ↓rulesDp, rulesDq, lit_u64, Int.ofNat_inj, stops, rc_reeveref1_Find, q_int, q_bool, q_S_uint64, q_uint64, q_reeveref1_Geo, q_reeveref1_Super, hva, c1, bin_rem, er8, c2']
    refine done_q hdom (by repeat first | exact Kept.refl hdom | refine Kept.new ?_ _ | refine Kept.drop ?_ (by omega) | refine Kept.put ?_ (by omega) (by omega) _ | refine Kept.skip ?_) rfl ?_
    simp (maxSteps := 1000000) (disch := first | assumption | omega | rfl | decide | simp only [fitsR, Bool.and_self]) [↓rules, rules, ↓rulesDp, rulesDq, lit_u64, Int.ofNat_inj, stops, aResults, aRes, q_int, q_bool, q_S_uint64, q_uint64, q_reeveref1_Geo, q_reeveref1_Super]
  have c2' : (l.length : Int) % 8 = 0 := by omega
  have hpos : 0 < l.length := by omega
  obtain ⟨b, o, hvb, _, _⟩ := rd_elems hv hpos
  subst hvb
  clear hva
  have w8 : IntKind.i64.wrap ((l.length : Int) - 8) = ((l.length - 8 : Nat) : Int) := by rw [wrap_i64 (by omega) (by omega)]; omega
  have wq : IntKind.i64.wrap ((l.length : Int) / 8) = (l.length : Int) / 8 := wrap_i64 (by omega) (by omega)
  have hf : findS l = (if endS (l.take 8) l.length = true then resS (l.take 8) else if endS (l.drop (l.length - 8)) l.length = true then resS (l.drop (l.length - 8)) else sv 0 0 0 0#64, endS (l.take 8) l.length, endS (l.drop (l.length - 8)) l.length) := by
    unfold findS; rw [if_neg (by omega)]
  rw [hf]
  have hA := rd_part (enc := fun w => [U w]) (fun _ => rfl) hv 0 8 (show 0 + 8 ≤ l.length by omega)
  have hB := rd_part (enc := fun w => [U w]) (fun _ => rfl) hv (l.length - 8) 8 (show l.length - 8 + 8 ≤ l.length by omega)
  simp only [List.drop_zero, Nat.zero_mul, Nat.add_zero, Nat.mul_one] at hA hB
  have hB8 : (l.drop (l.length - 8)).take 8 = l.drop (l.length - 8) := List.take_of_length_le (by rw [List.length_drop]; omega)
  rw [hB8] at hB
  obtain ⟨a1, a2, a3, a4, ra, pa⟩ := resS_dec (l.take 8)
  obtain ⟨b1, b2, b3, b4, rb, pb⟩ := resS_dec (l.drop (l.length - 8))
  have k0 : Kept g n (gset g n (some (.row [.int .i64 0, .int .i64 0, .int .i64 0, U 0#64] true))) (n + 1) := (by repeat first | exact Kept.refl hdom | refine Kept.new ?_ _ | refine Kept.drop ?_ (by omega) | refine Kept.put ?_ (by omega) (by omega) _ | refine Kept.skip ?_)
  have hle8 : (8 : Int) ≤ l.length := by omega
  have hle9 : 8 ≤ l.length := by omega
  have nn1 : n ≤ n + 1 := by omega
  have wl : IntKind.i64.wrap (l.length : Int) = (l.length : Int) := wrap_i64 (by omega) (by omega)
  have nn2 : n ≤ n + 1 + 1 := by omega
  have hsub : l.length - (l.length - 8) = 8 := by omega
  have hle4 : l.length - 8 < l.length := by omega
  have hle3 : l.length - 8 ≤ l.length := by omega
  have wa : IntKind.i64.wrap (8 * rowsG a1 a2 a3) = 8 * rowsG a1 a2 a3 := wrap_i64 (by have := rowsG_in a1 a2 a3; omega) (by have := rowsG_in a1 a2 a3; omega)
  have wb : IntKind.i64.wrap (8 * rowsG b1 b2 b3) = 8 * rowsG b1 b2 b3 := wrap_i64 (by have := rowsG_in b1 b2 b3; omega) (by have := rowsG_in b1 b2 b3; omega)
  simp (maxSteps := 1000000) (disch := first | assumption | omega | rfl | decide | simp only [fitsR, Bool.and_self]) [↓rules, rules, ↓rulesDp, rulesDq, lit_u64, Int.ofNat_inj, stops, rc_reeveref1_Find, q_int, q_bool, q_S_uint64, q_uint64, q_reeveref1_Geo, q_reeveref1_Super, c1, bin_rem, er8, c2', hle9]
  refine rcall_quiet rfl (ref_GetSuper _ _ _ _ (by rw [List.length_take]; omega) (hA.ext (k0.ext hdom))) ?_
  have k1 : Kept g n (gset (gset g n (some (.row [.int .i64 0, .int .i64 0, .int .i64 0, U 0#64] true))) (n + 1) (some (.row [.int .i64 a1, .int .i64 a2, .int .i64 a3, U a4] true))) (n + 1 + 1) := k0.new _
  have k2 : Kept g n (gset (gset (gset g n (some (.row [.int .i64 0, .int .i64 0, .int .i64 0, U 0#64] true))) (n + 1) (some (.row [.int .i64 a1, .int .i64 a2, .int .i64 a3, U a4] true))) (n + 1 + 1) (some (.row [.int .i64 b1, .int .i64 b2, .int .i64 b3, U b4] true))) (n + 1 + 1 + 1) := k1.new _
  rw [ra, rb]
  simp (maxSteps := 1000000) (disch := first | assumption | omega | rfl | decide | simp only [fitsR, Bool.and_self]) [↓rules, rules, ↓rulesDp, rulesDq, lit_u64, Int.ofNat_inj, stops, q_int, q_bool, q_S_uint64, q_uint64, q_reeveref1_Geo, q_reeveref1_Super, hle9, hle3, hle4, hsub, w8, nn1, nn2, wl]
  refine rcall_quiet rfl (ref_GetSuper _ _ _ _ (by rw [List.length_drop]; omega) (hB.ext (k1.ext hdom))) ?_
  rw [rb]
  cases sA : getS (l.take 8)
  · have eA : endS (l.take 8) l.length = false := by unfold endS; rw [sA]; rfl
    rw [eA]
    cases sB : getS (l.drop (l.length - 8))
    · have eB : endS (l.drop (l.length - 8)) l.length = false := by unfold endS; rw [sB]; rfl
      rw [eB]
      simp (maxSteps := 1000000) (disch := first | assumption | omega | rfl | decide | simp only [fitsR, Bool.and_self]) [↓rules, rules, ↓rulesDp, rulesDq, lit_u64, Int.ofNat_inj, stops, q_int, q_bool, q_S_uint64, q_uint64, q_reeveref1_Geo, q_reeveref1_Super, hle9, hle3, hle4, hsub, w8, nn1, nn2, wl]
      refine done_q hdom (by repeat first | exact k2 | refine Kept.new ?_ _ | refine Kept.drop ?_ (by omega) | refine Kept.put ?_ (by omega) (by omega) _ | refine Kept.skip ?_) rfl ?_
      simp (maxSteps := 1000000) (disch := first | assumption | omega | rfl | decide | simp only [fitsR, Bool.and_self]) [↓rules, rules, ↓rulesDp, rulesDq, lit_u64, Int.ofNat_inj, stops, aResults, aRes, q_int, q_bool, q_S_uint64, q_uint64, q_reeveref1_Geo, q_reeveref1_Super]
    · simp (maxSteps := 1000000) (disch := first | assumption | omega | rfl | decide | simp only [fitsR, Bool.and_self]) [↓rules, rules, ↓rulesDp, rulesDq, lit_u64, Int.ofNat_inj, stops, q_int, q_bool, q_S_uint64, q_uint64, q_reeveref1_Geo, q_reeveref1_Super, hle9, hle3, hle4, hsub, w8, nn1, nn2, wl]
      refine rcall_quiet rfl (RowsR b1 b2 b3 _ _) ?_
      by_cases dB : rowsG b1 b2 b3 = (l.length : Int) / 8
      · have eB : endS (l.drop (l.length - 8)) l.length = true := by unfold endS; rw [sB, pb sB, decide_eq_true dB]; rfl
        have dB' : 8 * rowsG b1 b2 b3 = (l.length : Int) := by omega
        rw [eB]
        simp (maxSteps := 1000000) (disch := first | assumption | omega | rfl | decide | simp only [fitsR, Bool.and_self]) [↓rules, rules, ↓rulesDp, rulesDq, lit_u64, Int.ofNat_inj, stops, q_int, q_bool, q_S_uint64, q_uint64, q_reeveref1_Geo, q_reeveref1_Super, hle9, hle3, hle4, hsub, w8, nn1, nn2, wl, wb, dB']
        refine done_q hdom (by repeat first | exact k2 | refine Kept.new ?_ _ | refine Kept.drop ?_ (by omega) | refine Kept.put ?_ (by omega) (by omega) _ | refine Kept.skip ?_) rfl ?_
        simp (maxSteps := 1000000) (disch := first | assumption | omega | rfl | decide | simp only [fitsR, Bool.and_self]) [↓rules, rules, ↓rulesDp, rulesDq, lit_u64, Int.ofNat_inj, stops, aResults, aRes, q_int, q_bool, q_S_uint64, q_uint64, q_reeveref1_Geo, q_reeveref1_Super]
      · have eB : endS (l.drop (l.length - 8)) l.length = false := by unfold endS; rw [sB, pb sB, decide_eq_false dB]; rfl
        have dB' : ¬ 8 * rowsG b1 b2 b3 = (l.length : Int) := by omega
        rw [eB]
        simp (maxSteps := 1000000) (disch := first | assumption | omega | rfl | decide | simp only [fitsR, Bool.and_self]) [↓rules, rules, ↓rulesDp, rulesDq, lit_u64, Int.ofNat_inj, stops, q_int, q_bool, q_S_uint64, q_uint64, q_reeveref1_Geo, q_reeveref1_Super, hle9, hle3, hle4, hsub, w8, nn1, nn2, wl, wb, dB']
        refine done_q hdom (by repeat first | exact k2 | refine Kept.new ?_ _ | refine Kept.drop ?_ (by omega) | refine Kept.put ?_ (by omega) (by omega) _ | refine Kept.skip ?_) rfl ?_
        simp (maxSteps := 1000000) (disch := first | assumption | omega | rfl | decide | simp only [fitsR, Bool.and_self]) [↓rules, rules, ↓rulesDp, rulesDq, lit_u64, Int.ofNat_inj, stops, aResults, aRes, q_int, q_bool, q_S_uint64, q_uint64, q_reeveref1_Geo, q_reeveref1_Super]
  · simp (maxSteps := 1000000) (disch := first | assumption | omega | rfl | decide | simp only [fitsR, Bool.and_self]) [↓rules, rules, ↓rulesDp, rulesDq, lit_u64, Int.ofNat_inj, stops, q_int, q_bool, q_S_uint64, q_uint64, q_reeveref1_Geo, q_reeveref1_Super, hle9, hle3, hle4, hsub, w8, nn1, nn2, wl]
    refine rcall_quiet rfl (RowsR a1 a2 a3 _ _) ?_
    by_cases dA : rowsG a1 a2 a3 = (l.length : Int) / 8
    · have eA : endS (l.take 8) l.length = true := by unfold endS; rw [sA, pa sA, decide_eq_true dA]; rfl
      have dA' : 8 * rowsG a1 a2 a3 = (l.length : Int) := by omega
      rw [eA]
      cases sB : getS (l.drop (l.length - 8))
      · have eB : endS (l.drop (l.length - 8)) l.length = false := by unfold endS; rw [sB]; rfl
        rw [eB]
        simp (maxSteps := 1000000) (disch := first | assumption | omega | rfl | decide | simp only [fitsR, Bool.and_self]) [↓rules, rules, ↓rulesDp, rulesDq, lit_u64, Int.ofNat_inj, stops, q_int, q_bool, q_S_uint64, q_uint64, q_reeveref1_Geo, q_reeveref1_Super, hle9, hle3, hle4, hsub, w8, nn1, nn2, wl, wa, dA']
        refine done_q hdom (by repeat first | exact k2 | refine Kept.new ?_ _ | refine Kept.drop ?_ (by omega) | refine Kept.put ?_ (by omega) (by omega) _ | refine Kept.skip ?_) rfl ?_
        simp (maxSteps := 1000000) (disch := first | assumption | omega | rfl | decide | simp only [fitsR, Bool.and_self]) [↓rules, rules, ↓rulesDp, rulesDq, lit_u64, Int.ofNat_inj, stops, aResults, aRes, q_int, q_bool, q_S_uint64, q_uint64, q_reeveref1_Geo, q_reeveref1_Super]
      · simp (maxSteps := 1000000) (disch := first | assumption | omega | rfl | decide | simp only [fitsR, Bool.and_self]) [↓rules, rules, ↓rulesDp, rulesDq, lit_u64, Int.ofNat_inj, stops, q_int, q_bool, q_S_uint64, q_uint64, q_reeveref1_Geo, q_reeveref1_Super, hle9, hle3, hle4, hsub, w8, nn1, nn2, wl, wa, dA']
        refine rcall_quiet rfl (RowsR b1 b2 b3 _ _) ?_
        by_cases dB : rowsG b1 b2 b3 = (l.length : Int) / 8
        · have eB : endS (l.drop (l.length - 8)) l.length = true := by unfold endS; rw [sB, pb sB, decide_eq_true dB]; rfl
          have dB' : 8 * rowsG b1 b2 b3 = (l.length : Int) := by omega
          rw [eB]
          simp (maxSteps := 1000000) (disch := first | assumption | omega | rfl | decide | simp only [fitsR, Bool.and_self]) [↓rules, rules, ↓rulesDp, rulesDq, lit_u64, Int.ofNat_inj, stops, q_int, q_bool, q_S_uint64, q_uint64, q_reeveref1_Geo, q_reeveref1_Super, hle9, hle3, hle4, hsub, w8, nn1, nn2, wl, wa, dA', wb, dB']
          refine done_q hdom (by repeat first | exact k2 | refine Kept.new ?_ _ | refine Kept.drop ?_ (by omega) | refine Kept.put ?_ (by omega) (by omega) _ | refine Kept.skip ?_) rfl ?_
          simp (maxSteps := 1000000) (disch := first | assumption | omega | rfl | decide | simp only [fitsR, Bool.and_self]) [↓rules, rules, ↓rulesDp, rulesDq, lit_u64, Int.ofNat_inj, stops, aResults, aRes, q_int, q_bool, q_S_uint64, q_uint64, q_reeveref1_Geo, q_reeveref1_Super]
        · have eB : endS (l.drop (l.length - 8)) l.length = false := by unfold endS; rw [sB, pb sB, decide_eq_false dB]; rfl
          have dB' : ¬ 8 * rowsG b1 b2 b3 = (l.length : Int) := by omega
          rw [eB]
          simp (maxSteps := 1000000) (disch := first | assumption | omega | rfl | decide | simp only [fitsR, Bool.and_self]) [↓rules, rules, ↓rulesDp, rulesDq, lit_u64, Int.ofNat_inj, stops, q_int, q_bool, q_S_uint64, q_uint64, q_reeveref1_Geo, q_reeveref1_Super, hle9, hle3, hle4, hsub, w8, nn1, nn2, wl, wa, dA', wb, dB']
          refine done_q hdom (by repeat first | exact k2 | refine Kept.new ?_ _ | refine Kept.drop ?_ (by omega) | refine Kept.put ?_ (by omega) (by omega) _ | refine Kept.skip ?_) rfl ?_
          simp (maxSteps := 1000000) (disch := first | assumption | omega | rfl | decide | simp only [fitsR, Bool.and_self]) [↓rules, rules, ↓rulesDp, rulesDq, lit_u64, Int.ofNat_inj, stops, aResults, aRes, q_int, q_bool, q_S_uint64, q_uint64, q_reeveref1_Geo, q_reeveref1_Super]
    · have eA : endS (l.take 8) l.length = false := by unfold endS; rw [sA, pa sA, decide_eq_false dA]; rfl
      have dA' : ¬ 8 * rowsG a1 a2 a3 = (l.length : Int) := by omega
      rw [eA]
      cases sB : getS (l.drop (l.length - 8))
      · have eB : endS (l.drop (l.length - 8)) l.length = false := by unfold endS; rw [sB]; rfl
        rw [eB]
        simp (maxSteps := 1000000) (disch := first | assumption | omega | rfl | decide | simp only [fitsR, Bool.and_self]) [↓rules, rules, ↓rulesDp, rulesDq, lit_u64, Int.ofNat_inj, stops, q_int, q_bool, q_S_uint64, q_uint64, q_reeveref1_Geo, q_reeveref1_Super, hle9, hle3, hle4, hsub, w8, nn1, nn2, wl, wa, dA']
        refine done_q hdom (by repeat first | exact k2 | refine Kept.new ?_ _ | refine Kept.drop ?_ (by omega) | refine Kept.put ?_ (by omega) (by omega) _ | refine Kept.skip ?_) rfl ?_
        simp (maxSteps := 1000000) (disch := first | assumption | omega | rfl | decide | simp only [fitsR, Bool.and_self]) [↓rules, rules, ↓rulesDp, rulesDq, lit_u64, Int.ofNat_inj, stops, aResults, aRes, q_int, q_bool, q_S_uint64, q_uint64, q_reeveref1_Geo, q_reeveref1_Super]
      · simp (maxSteps := 1000000) (disch := first | assumption | omega | rfl | decide | simp only [fitsR, Bool.and_self]) [↓rules, rules, ↓rulesDp, rulesDq, lit_u64, Int.ofNat_inj, stops, q_int, q_bool, q_S_uint64, q_uint64, q_reeveref1_Geo, q_reeveref1_Super, hle9, hle3, hle4, hsub, w8, nn1, nn2, wl, wa, dA']
        refine rcall_quiet rfl (RowsR b1 b2 b3 _ _) ?_
        by_cases dB : rowsG b1 b2 b3 = (l.length : Int) / 8
        · have eB : endS (l.drop (l.length - 8)) l.length = true := by unfold endS; rw [sB, pb sB, decide_eq_true dB]; rfl
          have dB' : 8 * rowsG b1 b2 b3 = (l.length : Int) := by omega
          rw [eB]
          simp (maxSteps := 1000000) (disch := first | assumption | omega | rfl | decide | simp only [fitsR, Bool.and_self]) [↓rules, rules, ↓rulesDp, rulesDq, lit_u64, Int.ofNat_inj, stops, q_int, q_bool, q_S_uint64, q_uint64, q_reeveref1_Geo, q_reeveref1_Super, hle9, hle3, hle4, hsub, w8, nn1, nn2, wl, wa, dA', wb, dB']
          refine done_q hdom (by repeat first | exact k2 | refine Kept.new ?_ _ | refine Kept.drop ?_ (by omega) | refine Kept.put ?_ (by omega) (by omega) _ | refine Kept.skip ?_) rfl ?_
          simp (maxSteps := 1000000) (disch := first | assumption | omega | rfl | decide | simp only [fitsR, Bool.and_self]) [↓rules, rules, ↓rulesDp, rulesDq, lit_u64, Int.ofNat_inj, stops, aResults, aRes, q_int, q_bool, q_S_uint64, q_uint64, q_reeveref1_Geo, q_reeveref1_Super]
        · have eB : endS (l.drop (l.length - 8)) l.length = false := by unfold endS; rw [sB, pb sB, decide_eq_false dB]; rfl
          have dB' : ¬ 8 * rowsG b1 b2 b3 = (l.length : Int) := by omega
          rw [eB]
          simp (maxSteps := 1000000) (disch := first | assumption | omega | rfl | decide | simp only [fitsR, Bool.and_self]) [↓rules, rules, ↓rulesDp, rulesDq, lit_u64, Int.ofNat_inj, stops, q_int, q_bool, q_S_uint64, q_uint64, q_reeveref1_Geo, q_reeveref1_Super, hle9, hle3, hle4, hsub, w8, nn1, nn2, wl, wa, dA', wb, dB']
          refine done_q hdom (by repeat first | exact k2 | refine Kept.new ?_ _ | refine Kept.drop ?_ (by omega) | refine Kept.put ?_ (by omega) (by omega) _ | refine Kept.skip ?_) rfl ?_
          simp (maxSteps := 1000000) (disch := first | assumption | omega | rfl | decide | simp only [fitsR, Bool.and_self]) [↓rules, rules, ↓rulesDp, rulesDq, lit_u64, Int.ofNat_inj, stops, aResults, aRes, q_int, q_bool, q_S_uint64, q_uint64, q_reeveref1_Geo, q_reeveref1_Super]
end Go.Proofs.Ytcndbfekcmalmaa.F6

namespace Go.Proofs.Ytcndbfekcmalmaa.F6
open Go Go.Proofs Go.Proofs.YtcndbfekcmalmaaAbs Go.Proofs.YtcndbfekcmalmaaAbs.Flt
set_option maxHeartbeats 4000000
set_option maxRecDepth 100000
theorem findS_dec (l : List (BitVec 64)) : ∃ (a b c : Int) (w : BitVec 64), (findS l).1 = sv a b c w := by
  unfold findS
  split
  · exact ⟨_, _, _, _, rfl⟩
  · simp only
    split
    · obtain ⟨a, b, c, w, h, _⟩ := resS_dec (l.take 8); exact ⟨a, b, c, w, h⟩
    · split
      · obtain ⟨a, b, c, w, h, _⟩ := resS_dec (l.drop (l.length - 8)); exact ⟨a, b, c, w, h⟩
      · exact ⟨_, _, _, _, rfl⟩
theorem SuperSays (a b c : Int) (w : BitVec 64) (va : Value) (l : List (BitVec 64)) (g : AMem) (n : Nat) (hdom : ∀ i, g i ≠ none → i < n) (hv : rdW g va l) :
    FnC Try.prog f_reevelaw6_SuperSays [sv a b c w, va] g n (fun _ => False) (.bool true) g n := by
  refine fnC_of_rwp t_reevelaw6_SuperSays hm rfl fun hdom => ?_
  obtain ⟨pa, ea, hva⟩ := hv.form
  simp (maxSteps := 1000000) (disch := first | assumption | omega | rfl | decide | simp only [fitsR, Bool.and_self]) [↓rules, rules, ↓rulesDp, rulesDq, lit_u64, Int.ofNat_inj, stops, rc_reevelaw6_SuperSays, q_int, q_bool, q_S_uint64, q_uint64, q_geo_Geo, q_super_Super, q_reeveref1_Geo, q_reeveref1_Super]
  refine rcall_quiet rfl (awake6 _ _) ?_
  have nn : n ≤ n + 1 ∧ n ≤ n + 1 + 1 ∧ n ≤ n + 1 + 1 + 1 ∧ n ≤ n + 1 + 1 + 1 + 1 := by omega
  obtain ⟨nn1, nn2, nn3, nn4⟩ := nn
  have k0 : Kept g n (gset g n (some (.row [.int .i64 a, .int .i64 b, .int .i64 c, U w] true))) (n + 1) := (by repeat first | exact Kept.refl hdom | refine Kept.new ?_ _ | refine Kept.drop ?_ (by omega) | refine Kept.put ?_ (by omega) (by omega) _ | refine Kept.skip ?_)
  by_cases c1 : 40000 < (l.length : Int)
  · simp (maxSteps := 1000000) (disch := first | assumption | omega | rfl | decide | simp only [fitsR, Bool.and_self]) [↓rules, rules, ↓rulesDp, rulesDq, lit_u64, Int.ofNat_inj, stops, q_int, q_bool, q_S_uint64, q_uint64, q_geo_Geo, q_super_Super, q_reeveref1_Geo, q_reeveref1_Super, hva, c1]
    exact done_q hdom k0 rfl rfl
  have hl : l.length < 4611686018427387904 := by omega
  simp (maxSteps := 1000000) (disch := first | assumption | omega | rfl | decide | simp only [fitsR, Bool.and_self]) [↓rules, rules, ↓rulesDp, rulesDq, lit_u64, Int.ofNat_inj, stops, q_int, q_bool, q_S_uint64, q_uint64, q_geo_Geo, q_super_Super, q_reeveref1_Geo, q_reeveref1_Super, hva, c1]
  rw [← hva]
  refine rcall_quiet rfl (super_Get va l _ _ hl (hv.ext (k0.ext hdom))) ?_
  obtain ⟨a1, a2, a3, a4, ra, _⟩ := resS_dec l
  rw [ra]
  have k1 := k0.new (.row [.int .i64 a1, .int .i64 a2, .int .i64 a3, U a4] true)
  simp (maxSteps := 1000000) (disch := first | assumption | omega | rfl | decide | simp only [fitsR, Bool.and_self]) [↓rules, rules, ↓rulesDp, rulesDq, lit_u64, Int.ofNat_inj, stops, q_int, q_bool, q_S_uint64, q_uint64, q_geo_Geo, q_super_Super, q_reeveref1_Geo, q_reeveref1_Super, nn1, nn2, nn3, nn4]
  refine rcall_quiet rfl (ref_GetSuper va l _ _ hl (hv.ext (k1.ext hdom))) ?_
  rw [ra]
  have k2 := k1.new (.row [.int .i64 a1, .int .i64 a2, .int .i64 a3, U a4] true)
  simp (maxSteps := 1000000) (disch := first | assumption | omega | rfl | decide | simp only [fitsR, Bool.and_self]) [↓rules, rules, ↓rulesDp, rulesDq, lit_u64, Int.ofNat_inj, stops, q_int, q_bool, q_S_uint64, q_uint64, q_geo_Geo, q_super_Super, q_reeveref1_Geo, q_reeveref1_Super, nn1, nn2, nn3, nn4]
  refine rcall_quiet rfl (super_Find va l _ _ hl (hv.ext (k2.ext hdom))) ?_
  obtain ⟨b1, b2, b3, b4, rb⟩ := findS_dec l
  rw [rb]
  have k3 := k2.new (.row [.int .i64 b1, .int .i64 b2, .int .i64 b3, U b4] true)
  simp (maxSteps := 1000000) (disch := first | assumption | omega | rfl | decide | simp only [fitsR, Bool.and_self]) [↓rules, rules, ↓rulesDp, rulesDq, lit_u64, Int.ofNat_inj, stops, q_int, q_bool, q_S_uint64, q_uint64, q_geo_Geo, q_super_Super, q_reeveref1_Geo, q_reeveref1_Super, nn1, nn2, nn3, nn4]
  refine rcall_quiet rfl (ref_Find va l _ _ hl (hv.ext (k3.ext hdom))) ?_
  rw [rb]
  have k4 := k3.new (.row [.int .i64 b1, .int .i64 b2, .int .i64 b3, U b4] true)
  generalize getS l = s1
  generalize (findS l).2.1 = s2
  generalize (findS l).2.2 = s3
  simp (maxSteps := 1000000) (disch := first | assumption | omega | rfl | decide | simp only [fitsR, Bool.and_self]) [↓rules, rules, ↓rulesDp, rulesDq, lit_u64, Int.ofNat_inj, stops, q_int, q_bool, q_S_uint64, q_uint64, q_geo_Geo, q_super_Super, q_reeveref1_Geo, q_reeveref1_Super, nn1, nn2, nn3, nn4]
  have h0 : (gset (gset (gset (gset (gset g n (some (.row [.int .i64 a, .int .i64 b, .int .i64 c, U w] true))) (n + 1) (some (.row [.int .i64 a1, .int .i64 a2, .int .i64 a3, U a4] true))) (n + 1 + 1) (some (.row [.int .i64 a1, .int .i64 a2, .int .i64 a3, U a4] true))) (n + 1 + 1 + 1) (some (.row [.int .i64 b1, .int .i64 b2, .int .i64 b3, U b4] true))) (n + 1 + 1 + 1 + 1) (some (.row [.int .i64 b1, .int .i64 b2, .int .i64 b3, U b4] true))) n = some (.row [.int .i64 a, .int .i64 b, .int .i64 c, U w] true) := by
    simp only [gset]
    rw [if_neg (by omega), if_neg (by omega), if_neg (by omega), if_neg (by omega), if_pos trivial]
  have h1 : (gset (gset (gset (gset (gset g n (some (.row [.int .i64 a, .int .i64 b, .int .i64 c, U w] true))) (n + 1) (some (.row [.int .i64 a1, .int .i64 a2, .int .i64 a3, U a4] true))) (n + 1 + 1) (some (.row [.int .i64 a1, .int .i64 a2, .int .i64 a3, U a4] true))) (n + 1 + 1 + 1) (some (.row [.int .i64 b1, .int .i64 b2, .int .i64 b3, U b4] true))) (n + 1 + 1 + 1 + 1) (some (.row [.int .i64 b1, .int .i64 b2, .int .i64 b3, U b4] true))) (n + 1) = some (.row [.int .i64 a1, .int .i64 a2, .int .i64 a3, U a4] true) := by
    simp only [gset]
    rw [if_neg (by omega), if_neg (by omega), if_neg (by omega), if_pos trivial]
  have h2 : (gset (gset (gset (gset (gset g n (some (.row [.int .i64 a, .int .i64 b, .int .i64 c, U w] true))) (n + 1) (some (.row [.int .i64 a1, .int .i64 a2, .int .i64 a3, U a4] true))) (n + 1 + 1) (some (.row [.int .i64 a1, .int .i64 a2, .int .i64 a3, U a4] true))) (n + 1 + 1 + 1) (some (.row [.int .i64 b1, .int .i64 b2, .int .i64 b3, U b4] true))) (n + 1 + 1 + 1 + 1) (some (.row [.int .i64 b1, .int .i64 b2, .int .i64 b3, U b4] true))) (n + 1 + 1) = some (.row [.int .i64 a1, .int .i64 a2, .int .i64 a3, U a4] true) := by
    simp only [gset]
    rw [if_neg (by omega), if_neg (by omega), if_pos trivial]
  have h3 : (gset (gset (gset (gset (gset g n (some (.row [.int .i64 a, .int .i64 b, .int .i64 c, U w] true))) (n + 1) (some (.row [.int .i64 a1, .int .i64 a2, .int .i64 a3, U a4] true))) (n + 1 + 1) (some (.row [.int .i64 a1, .int .i64 a2, .int .i64 a3, U a4] true))) (n + 1 + 1 + 1) (some (.row [.int .i64 b1, .int .i64 b2, .int .i64 b3, U b4] true))) (n + 1 + 1 + 1 + 1) (some (.row [.int .i64 b1, .int .i64 b2, .int .i64 b3, U b4] true))) (n + 1 + 1 + 1) = some (.row [.int .i64 b1, .int .i64 b2, .int .i64 b3, U b4] true) := by
    simp only [gset]
    rw [if_neg (by omega), if_pos trivial]
  have h4 := gset_same (gset (gset (gset (gset g n (some (.row [.int .i64 a, .int .i64 b, .int .i64 c, U w] true))) (n + 1) (some (.row [.int .i64 a1, .int .i64 a2, .int .i64 a3, U a4] true))) (n + 1 + 1) (some (.row [.int .i64 a1, .int .i64 a2, .int .i64 a3, U a4] true))) (n + 1 + 1 + 1) (some (.row [.int .i64 b1, .int .i64 b2, .int .i64 b3, U b4] true))) (n + 1 + 1 + 1 + 1) (some (.row [.int .i64 b1, .int .i64 b2, .int .i64 b3, U b4] true))
  clear k0 k1 k2 k3
  generalize gset (gset (gset (gset (gset g n (some (.row [.int .i64 a, .int .i64 b, .int .i64 c, U w] true))) (n + 1) (some (.row [.int .i64 a1, .int .i64 a2, .int .i64 a3, U a4] true))) (n + 1 + 1) (some (.row [.int .i64 a1, .int .i64 a2, .int .i64 a3, U a4] true))) (n + 1 + 1 + 1) (some (.row [.int .i64 b1, .int .i64 b2, .int .i64 b3, U b4] true))) (n + 1 + 1 + 1 + 1) (some (.row [.int .i64 b1, .int .i64 b2, .int .i64 b3, U b4] true)) = G at *
  refine dcall_spec k4.dom (super_Put a b c w _ _ k4.dom) (fun _ _ _ h => h.2) rfl (by first | trivial | simp (maxSteps := 1000000) (disch := first | assumption | omega | rfl | decide | simp only [fitsR, Bool.and_self]) [↓rules, rules, ↓rulesDp, rulesDq, lit_u64, Int.ofNat_inj]) fun vp g1 n1 ⟨r1, q1⟩ => ?_
  have hle1 := q1.le
  rw [← q1.same _ (by omega)] at h0 h1 h2 h3 h4
  simp (maxSteps := 1000000) (disch := first | assumption | omega | rfl | decide | simp only [fitsR, Bool.and_self]) [↓rules, rules, ↓rulesDp, rulesDq, lit_u64, Int.ofNat_inj, stops, q_int, q_bool, q_S_uint64, q_uint64, q_geo_Geo, q_super_Super, q_reeveref1_Geo, q_reeveref1_Super, h0, h1, h2, h3, h4]
  refine dcall_quiet q1.dom rfl (own_super a b c w _ _) (by first | trivial | simp (maxSteps := 1000000) (disch := first | assumption | omega | rfl | decide | simp only [fitsR, Bool.and_self]) [↓rules, rules, ↓rulesDp, rulesDq, lit_u64, Int.ofNat_inj]) ?_
  simp (maxSteps := 1000000) (disch := first | assumption | omega | rfl | decide | simp only [fitsR, Bool.and_self]) [↓rules, rules, ↓rulesDp, rulesDq, lit_u64, Int.ofNat_inj, stops, q_int, q_bool, q_S_uint64, q_uint64, q_geo_Geo, q_super_Super, q_reeveref1_Geo, q_reeveref1_Super, h0, h1, h2, h3, h4]
  refine dcall_spec q1.dom (ref_PutSuper a b c w _ _ q1.dom) (fun _ _ _ h => h.2) rfl (by first | trivial | simp (maxSteps := 1000000) (disch := first | assumption | omega | rfl | decide | simp only [fitsR, Bool.and_self]) [↓rules, rules, ↓rulesDp, rulesDq, lit_u64, Int.ofNat_inj]) fun vq g2 n2 ⟨r2, q2⟩ => ?_
  have hle2 := q2.le
  rw [← q2.same _ (by omega)] at h0 h1 h2 h3 h4
  have hpl : (putS a b c w).length < 4611686018427387904 := by
    unfold putS
    split
    · simp [supL]
    · simp
  have hw := words vp vq _ _ g2 n2 hpl hpl (r1.ext (q2.ext q1.dom)) r2
  rw [decide_eq_true rfl] at hw
  have kf := (k4.trans q1).trans q2
  have beq : ∀ x : Bool, (x == x) = true := fun x => by cases x <;> rfl
  simp (maxSteps := 1000000) (disch := first | assumption | omega | rfl | decide | simp only [fitsR, Bool.and_self]) [↓rules, rules, ↓rulesDp, rulesDq, lit_u64, Int.ofNat_inj, stops, q_int, q_bool, q_S_uint64, q_uint64, q_geo_Geo, q_super_Super, q_reeveref1_Geo, q_reeveref1_Super, h0, h1, h2, h3, h4]
  refine dcall_quiet q2.dom rfl hw (by first | trivial | simp (maxSteps := 1000000) (disch := first | assumption | omega | rfl | decide | simp only [fitsR, Bool.and_self]) [↓rules, rules, ↓rulesDp, rulesDq, lit_u64, Int.ofNat_inj]) ?_
  simp (maxSteps := 1000000) (disch := first | assumption | omega | rfl | decide | simp only [fitsR, Bool.and_self]) [↓rules, rules, ↓rulesDp, rulesDq, lit_u64, Int.ofNat_inj, stops, q_int, q_bool, q_S_uint64, q_uint64, q_geo_Geo, q_super_Super, q_reeveref1_Geo, q_reeveref1_Super, h0, h1, h2, h3, h4, bin_eql_bool tu_bool, beq]
  refine dcall_quiet q2.dom rfl (own_super a1 a2 a3 a4 _ _) (by first | trivial | simp (maxSteps := 1000000) (disch := first | assumption | omega | rfl | decide | simp only [fitsR, Bool.and_self]) [↓rules, rules, ↓rulesDp, rulesDq, lit_u64, Int.ofNat_inj]) ?_
  simp (maxSteps := 1000000) (disch := first | assumption | omega | rfl | decide | simp only [fitsR, Bool.and_self]) [↓rules, rules, ↓rulesDp, rulesDq, lit_u64, Int.ofNat_inj, stops, q_int, q_bool, q_S_uint64, q_uint64, q_geo_Geo, q_super_Super, q_reeveref1_Geo, q_reeveref1_Super, h0, h1, h2, h3, h4, bin_eql_bool tu_bool, beq, beq_reeveref1_Super]
  refine dcall_quiet q2.dom rfl (own_super b1 b2 b3 b4 _ _) (by first | trivial | simp (maxSteps := 1000000) (disch := first | assumption | omega | rfl | decide | simp only [fitsR, Bool.and_self]) [↓rules, rules, ↓rulesDp, rulesDq, lit_u64, Int.ofNat_inj]) ?_
  simp (maxSteps := 1000000) (disch := first | assumption | omega | rfl | decide | simp only [fitsR, Bool.and_self]) [↓rules, rules, ↓rulesDp, rulesDq, lit_u64, Int.ofNat_inj, stops, q_int, q_bool, q_S_uint64, q_uint64, q_geo_Geo, q_super_Super, q_reeveref1_Geo, q_reeveref1_Super, h0, h1, h2, h3, h4, bin_eql_bool tu_bool, beq, beq_reeveref1_Super]
  exact done_q hdom kf rfl rfl
end Go.Proofs.Ytcndbfekcmalmaa.F6
