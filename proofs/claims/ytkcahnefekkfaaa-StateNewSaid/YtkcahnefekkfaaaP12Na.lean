/- Contracts of functions: what each one returns, and what it leaves. No statement is proved here. -/
import Derived.Test.YtkcahnefekkfaaaP12Gb
set_option linter.unusedVariables false
set_option linter.unusedSimpArgs false
set_option linter.unusedSectionVars false
namespace Go.Proofs.Ytkcahnefekkfaaa.F12G
open Go Go.Proofs Go.Proofs.YtkcahnefekkfaaaAbs
variable [Base]
set_option maxHeartbeats 8000000
set_option maxRecDepth 100000
def mkT (k s b : Int) : Th := if k = 1 then { noT with ty := k, size := s } else if k = 2 then { noT with ty := k, bits := s, base := b } else { noT with ty := k }
def newT (k s b : Int) : Th × Bool := if 1 ≤ k ∧ k ≤ 5 ∧ goodT (mkT k s b) = true then (mkT k s b, true) else (noT, false)
theorem thing_New (k s b : Int) (g : AMem) (n : Nat) : FnC Try.prog f_thing_New [.int .i64 k, .int .i64 s, .int .i64 b] g n (fun _ => False) (.tuple #[vT (newT k s b).1, .bool (newT k s b).2]) g n := by
  refine fnC_of_rwp t_thing_New hm rfl fun hdom => ?_
  by_cases c1 : k = 1
  · subst c1
    simp (maxSteps := 1000000) (disch := first | assumption | omega | rfl | decide | simp only [fitsR, Bool.and_self]) [↓rules, rules, ↓rulesDp, rulesDq, lit_u64, Int.ofNat_inj, rc_thing_New, q_int, q_bool, q_uint64, q_A4_uint64, q_thing_Thing]
    refine rcall_quiet rfl (thing_Good ⟨1, 0, 0, s, 0, 0, 0, false, 0#64, 0#64, 0#64, 0#64, 0#64⟩ _ _) ?_
    cases c : goodT ⟨1, 0, 0, s, 0, 0, 0, false, 0#64, 0#64, 0#64, 0#64, 0#64⟩
    · simp (maxSteps := 1000000) (disch := first | assumption | omega | rfl | decide | simp only [fitsR, Bool.and_self]) [↓rules, rules, ↓rulesDp, rulesDq, lit_u64, Int.ofNat_inj, q_int, q_bool, q_uint64, q_A4_uint64, q_thing_Thing]
      refine done_q hdom (by repeat first | exact Kept.refl hdom | refine Kept.new ?_ _ | refine Kept.drop ?_ (by omega) | refine Kept.put ?_ (by omega) (by omega) _ | refine Kept.skip ?_) rfl ?_
      simp (maxSteps := 1000000) (disch := first | assumption | omega | rfl | decide | simp only [fitsR, Bool.and_self]) [↓rules, rules, ↓rulesDp, rulesDq, lit_u64, Int.ofNat_inj, aResults, aRes, q_int, q_bool, q_uint64, q_A4_uint64, q_thing_Thing, newT, mkT, noT, c]
    · simp (maxSteps := 1000000) (disch := first | assumption | omega | rfl | decide | simp only [fitsR, Bool.and_self]) [↓rules, rules, ↓rulesDp, rulesDq, lit_u64, Int.ofNat_inj, q_int, q_bool, q_uint64, q_A4_uint64, q_thing_Thing]
      refine done_q hdom (by repeat first | exact Kept.refl hdom | refine Kept.new ?_ _ | refine Kept.drop ?_ (by omega) | refine Kept.put ?_ (by omega) (by omega) _ | refine Kept.skip ?_) rfl ?_
      simp (maxSteps := 1000000) (disch := first | assumption | omega | rfl | decide | simp only [fitsR, Bool.and_self]) [↓rules, rules, ↓rulesDp, rulesDq, lit_u64, Int.ofNat_inj, aResults, aRes, q_int, q_bool, q_uint64, q_A4_uint64, q_thing_Thing, newT, mkT, noT, c]
  by_cases c2 : k = 2
  · subst c2
    simp (maxSteps := 1000000) (disch := first | assumption | omega | rfl | decide | simp only [fitsR, Bool.and_self]) [↓rules, rules, ↓rulesDp, rulesDq, lit_u64, Int.ofNat_inj, rc_thing_New, q_int, q_bool, q_uint64, q_A4_uint64, q_thing_Thing]
    refine rcall_quiet rfl (thing_Good ⟨2, s, b, 0, 0, 0, 0, false, 0#64, 0#64, 0#64, 0#64, 0#64⟩ _ _) ?_
    cases c : goodT ⟨2, s, b, 0, 0, 0, 0, false, 0#64, 0#64, 0#64, 0#64, 0#64⟩
    · simp (maxSteps := 1000000) (disch := first | assumption | omega | rfl | decide | simp only [fitsR, Bool.and_self]) [↓rules, rules, ↓rulesDp, rulesDq, lit_u64, Int.ofNat_inj, q_int, q_bool, q_uint64, q_A4_uint64, q_thing_Thing]
      refine done_q hdom (by repeat first | exact Kept.refl hdom | refine Kept.new ?_ _ | refine Kept.drop ?_ (by omega) | refine Kept.put ?_ (by omega) (by omega) _ | refine Kept.skip ?_) rfl ?_
      simp (maxSteps := 1000000) (disch := first | assumption | omega | rfl | decide | simp only [fitsR, Bool.and_self]) [↓rules, rules, ↓rulesDp, rulesDq, lit_u64, Int.ofNat_inj, aResults, aRes, q_int, q_bool, q_uint64, q_A4_uint64, q_thing_Thing, newT, mkT, noT, c]
    · simp (maxSteps := 1000000) (disch := first | assumption | omega | rfl | decide | simp only [fitsR, Bool.and_self]) [↓rules, rules, ↓rulesDp, rulesDq, lit_u64, Int.ofNat_inj, q_int, q_bool, q_uint64, q_A4_uint64, q_thing_Thing]
      refine done_q hdom (by repeat first | exact Kept.refl hdom | refine Kept.new ?_ _ | refine Kept.drop ?_ (by omega) | refine Kept.put ?_ (by omega) (by omega) _ | refine Kept.skip ?_) rfl ?_
      simp (maxSteps := 1000000) (disch := first | assumption | omega | rfl | decide | simp only [fitsR, Bool.and_self]) [↓rules, rules, ↓rulesDp, rulesDq, lit_u64, Int.ofNat_inj, aResults, aRes, q_int, q_bool, q_uint64, q_A4_uint64, q_thing_Thing, newT, mkT, noT, c]
  by_cases c3 : k = 3
  · subst c3
    simp (maxSteps := 1000000) (disch := first | assumption | omega | rfl | decide | simp only [fitsR, Bool.and_self]) [↓rules, rules, ↓rulesDp, rulesDq, lit_u64, Int.ofNat_inj, rc_thing_New, q_int, q_bool, q_uint64, q_A4_uint64, q_thing_Thing]
    refine rcall_quiet rfl (thing_Good ⟨3, 0, 0, 0, 0, 0, 0, false, 0#64, 0#64, 0#64, 0#64, 0#64⟩ _ _) ?_
    cases c : goodT ⟨3, 0, 0, 0, 0, 0, 0, false, 0#64, 0#64, 0#64, 0#64, 0#64⟩
    · simp (maxSteps := 1000000) (disch := first | assumption | omega | rfl | decide | simp only [fitsR, Bool.and_self]) [↓rules, rules, ↓rulesDp, rulesDq, lit_u64, Int.ofNat_inj, q_int, q_bool, q_uint64, q_A4_uint64, q_thing_Thing]
      refine done_q hdom (by repeat first | exact Kept.refl hdom | refine Kept.new ?_ _ | refine Kept.drop ?_ (by omega) | refine Kept.put ?_ (by omega) (by omega) _ | refine Kept.skip ?_) rfl ?_
      simp (maxSteps := 1000000) (disch := first | assumption | omega | rfl | decide | simp only [fitsR, Bool.and_self]) [↓rules, rules, ↓rulesDp, rulesDq, lit_u64, Int.ofNat_inj, aResults, aRes, q_int, q_bool, q_uint64, q_A4_uint64, q_thing_Thing, newT, mkT, noT, c]
    · simp (maxSteps := 1000000) (disch := first | assumption | omega | rfl | decide | simp only [fitsR, Bool.and_self]) [↓rules, rules, ↓rulesDp, rulesDq, lit_u64, Int.ofNat_inj, q_int, q_bool, q_uint64, q_A4_uint64, q_thing_Thing]
      refine done_q hdom (by repeat first | exact Kept.refl hdom | refine Kept.new ?_ _ | refine Kept.drop ?_ (by omega) | refine Kept.put ?_ (by omega) (by omega) _ | refine Kept.skip ?_) rfl ?_
      simp (maxSteps := 1000000) (disch := first | assumption | omega | rfl | decide | simp only [fitsR, Bool.and_self]) [↓rules, rules, ↓rulesDp, rulesDq, lit_u64, Int.ofNat_inj, aResults, aRes, q_int, q_bool, q_uint64, q_A4_uint64, q_thing_Thing, newT, mkT, noT, c]
  by_cases c4 : k = 4
  · subst c4
    simp (maxSteps := 1000000) (disch := first | assumption | omega | rfl | decide | simp only [fitsR, Bool.and_self]) [↓rules, rules, ↓rulesDp, rulesDq, lit_u64, Int.ofNat_inj, rc_thing_New, q_int, q_bool, q_uint64, q_A4_uint64, q_thing_Thing]
    refine rcall_quiet rfl (thing_Good ⟨4, 0, 0, 0, 0, 0, 0, false, 0#64, 0#64, 0#64, 0#64, 0#64⟩ _ _) ?_
    cases c : goodT ⟨4, 0, 0, 0, 0, 0, 0, false, 0#64, 0#64, 0#64, 0#64, 0#64⟩
    · simp (maxSteps := 1000000) (disch := first | assumption | omega | rfl | decide | simp only [fitsR, Bool.and_self]) [↓rules, rules, ↓rulesDp, rulesDq, lit_u64, Int.ofNat_inj, q_int, q_bool, q_uint64, q_A4_uint64, q_thing_Thing]
      refine done_q hdom (by repeat first | exact Kept.refl hdom | refine Kept.new ?_ _ | refine Kept.drop ?_ (by omega) | refine Kept.put ?_ (by omega) (by omega) _ | refine Kept.skip ?_) rfl ?_
      simp (maxSteps := 1000000) (disch := first | assumption | omega | rfl | decide | simp only [fitsR, Bool.and_self]) [↓rules, rules, ↓rulesDp, rulesDq, lit_u64, Int.ofNat_inj, aResults, aRes, q_int, q_bool, q_uint64, q_A4_uint64, q_thing_Thing, newT, mkT, noT, c]
    · simp (maxSteps := 1000000) (disch := first | assumption | omega | rfl | decide | simp only [fitsR, Bool.and_self]) [↓rules, rules, ↓rulesDp, rulesDq, lit_u64, Int.ofNat_inj, q_int, q_bool, q_uint64, q_A4_uint64, q_thing_Thing]
      refine done_q hdom (by repeat first | exact Kept.refl hdom | refine Kept.new ?_ _ | refine Kept.drop ?_ (by omega) | refine Kept.put ?_ (by omega) (by omega) _ | refine Kept.skip ?_) rfl ?_
      simp (maxSteps := 1000000) (disch := first | assumption | omega | rfl | decide | simp only [fitsR, Bool.and_self]) [↓rules, rules, ↓rulesDp, rulesDq, lit_u64, Int.ofNat_inj, aResults, aRes, q_int, q_bool, q_uint64, q_A4_uint64, q_thing_Thing, newT, mkT, noT, c]
  by_cases c5 : k = 5
  · subst c5
    simp (maxSteps := 1000000) (disch := first | assumption | omega | rfl | decide | simp only [fitsR, Bool.and_self]) [↓rules, rules, ↓rulesDp, rulesDq, lit_u64, Int.ofNat_inj, rc_thing_New, q_int, q_bool, q_uint64, q_A4_uint64, q_thing_Thing]
    refine rcall_quiet rfl (thing_Good ⟨5, 0, 0, 0, 0, 0, 0, false, 0#64, 0#64, 0#64, 0#64, 0#64⟩ _ _) ?_
    cases c : goodT ⟨5, 0, 0, 0, 0, 0, 0, false, 0#64, 0#64, 0#64, 0#64, 0#64⟩
    · simp (maxSteps := 1000000) (disch := first | assumption | omega | rfl | decide | simp only [fitsR, Bool.and_self]) [↓rules, rules, ↓rulesDp, rulesDq, lit_u64, Int.ofNat_inj, q_int, q_bool, q_uint64, q_A4_uint64, q_thing_Thing]
      refine done_q hdom (by repeat first | exact Kept.refl hdom | refine Kept.new ?_ _ | refine Kept.drop ?_ (by omega) | refine Kept.put ?_ (by omega) (by omega) _ | refine Kept.skip ?_) rfl ?_
      simp (maxSteps := 1000000) (disch := first | assumption | omega | rfl | decide | simp only [fitsR, Bool.and_self]) [↓rules, rules, ↓rulesDp, rulesDq, lit_u64, Int.ofNat_inj, aResults, aRes, q_int, q_bool, q_uint64, q_A4_uint64, q_thing_Thing, newT, mkT, noT, c]
    · simp (maxSteps := 1000000) (disch := first | assumption | omega | rfl | decide | simp only [fitsR, Bool.and_self]) [↓rules, rules, ↓rulesDp, rulesDq, lit_u64, Int.ofNat_inj, q_int, q_bool, q_uint64, q_A4_uint64, q_thing_Thing]
      refine done_q hdom (by repeat first | exact Kept.refl hdom | refine Kept.new ?_ _ | refine Kept.drop ?_ (by omega) | refine Kept.put ?_ (by omega) (by omega) _ | refine Kept.skip ?_) rfl ?_
      simp (maxSteps := 1000000) (disch := first | assumption | omega | rfl | decide | simp only [fitsR, Bool.and_self]) [↓rules, rules, ↓rulesDp, rulesDq, lit_u64, Int.ofNat_inj, aResults, aRes, q_int, q_bool, q_uint64, q_A4_uint64, q_thing_Thing, newT, mkT, noT, c]
  have c6 : ¬ (1 ≤ k ∧ k ≤ 5) := by omega
  simp (maxSteps := 1000000) (disch := first | assumption | omega | rfl | decide | simp only [fitsR, Bool.and_self]) [↓rules, rules, ↓rulesDp, rulesDq, lit_u64, Int.ofNat_inj, rc_thing_New, q_int, q_bool, q_uint64, q_A4_uint64, q_thing_Thing, c1, c2, c3, c4, c5]
  refine done_q hdom (by repeat first | exact Kept.refl hdom | refine Kept.new ?_ _ | refine Kept.drop ?_ (by omega) | refine Kept.put ?_ (by omega) (by omega) _ | refine Kept.skip ?_) rfl ?_
  have e : newT k s b = (noT, false) := if_neg (fun h => c6 ⟨h.1, h.2.1⟩)
  rw [e]
  simp (maxSteps := 1000000) (disch := first | assumption | omega | rfl | decide | simp only [fitsR, Bool.and_self]) [↓rules, rules, ↓rulesDp, rulesDq, lit_u64, Int.ofNat_inj, aResults, aRes, q_int, q_bool, q_uint64, q_A4_uint64, q_thing_Thing, noT]
end Go.Proofs.Ytkcahnefekkfaaa.F12G

namespace Go.Proofs.Ytkcahnefekkfaaa.F12G
open Go Go.Proofs Go.Proofs.YtkcahnefekkfaaaAbs
variable [Base]
set_option maxHeartbeats 8000000
set_option maxRecDepth 100000
/-! ### Rows of structs, written -/
theorem splice_app (A R vs : List Value) (o : Nat) (h : o + vs.length ≤ A.length) : splice (A ++ R) o vs = splice A o vs ++ R := by
  unfold splice
  rw [List.take_append_of_le_length (by omega), List.drop_append_of_le_length h]
  simp only [List.append_assoc]
theorem splice_over (A R vs : List Value) (k : Nat) : splice (A ++ R) (A.length + k) vs = A ++ splice R k vs := by
  unfold splice
  rw [List.take_append, List.take_of_length_le (by omega), show A.length + k - A.length = k by omega, Nat.add_assoc, List.drop_append, List.drop_of_length_le (by omega), show A.length + (k + vs.length) - A.length = k + vs.length by omega]
  simp only [List.append_assoc, List.nil_append]
theorem flat_part {α : Type} {enc : α → List Value} {e : Nat} (he : ∀ x, (enc x).length = e) {vs : List Value} {o : Nat} (ho : o + vs.length ≤ e) : ∀ (xs : List α) (i : Nat) (hi : i < xs.length) (y : α), splice (enc xs[i]) o vs = enc y → splice (xs.flatMap enc) (i * e + o) vs = (xs.set i y).flatMap enc
  | x :: xs, 0, hi, y, hy => by
    rw [List.flatMap_cons, Nat.zero_mul, Nat.zero_add, splice_app _ _ _ _ (by rw [he]; exact ho)]
    simp only [List.getElem_cons_zero] at hy
    rw [hy]; rfl
  | x :: xs, i + 1, hi, y, hy => by
    have ih := flat_part he ho xs i (by simpa using hi) y (by simpa using hy)
    rw [List.flatMap_cons, Nat.succ_mul, show i * e + e + o = (enc x).length + (i * e + o) by rw [he]; omega, splice_over, ih]
    rfl
theorem flat_whole {α : Type} {enc : α → List Value} {e : Nat} (he : ∀ x, (enc x).length = e) (xs : List α) (i : Nat) (hi : i < xs.length) (y : α) : splice (xs.flatMap enc) (i * e) (enc y) = (xs.set i y).flatMap enc := by
  refine flat_part (o := 0) he (by rw [he]; omega) xs i hi y ?_
  unfold splice
  rw [List.take_zero, List.drop_of_length_le (by rw [he, he]; omega)]
  simp
theorem zero_flat {α : Type} {enc : α → List Value} {z : List Value} (x : α) (h : enc x = z) (m : Nat) : zeroRow z m = (List.replicate m x).flatMap enc := by
  unfold zeroRow
  rw [List.flatMap_def, List.map_replicate, h]
theorem range_set {α : Type} (f : Nat → α) (m i : Nat) (y : α) : ((List.range m).map f).set i y = (List.range m).map fun j => if j = i then y else f j := by
  refine List.ext_getElem (by simp) fun j h1 h2 => ?_
  rw [List.getElem_set]
  simp only [List.getElem_map, List.getElem_range]
  by_cases c : i = j
  · rw [if_pos c, if_pos c.symm]
  · rw [if_neg c, if_neg (fun h => c h.symm)]
theorem range_rep {α : Type} (x : α) (m : Nat) : List.replicate m x = (List.range m).map fun _ => x := by
  refine List.ext_getElem (by simp) fun j h1 h2 => ?_
  simp
/-! ### The first state -/
def slN (b k : Nat) : List Sl := (List.range b).map fun j => if j < k then ⟨0, 0, 0, 0, -1⟩ else ⟨0, 0, 0, 0, 0⟩
def slM (b k : Nat) : List Sl := (List.range b).map fun j => if j = 0 then ⟨1, 0, 7, 0, -1⟩ else if j % 8 = 1 ∧ j < 8 * k then ⟨3, 1, 7, 0, 1⟩ else ⟨0, 0, 0, 0, -1⟩
def slF (b k : Nat) : List Sl := (List.range b).map fun j => if j = 0 then ⟨1, 0, 7, 0, -1⟩ else if j = 1 then ⟨3, 1, 7, 0, -1⟩ else if j % 8 = 1 ∧ j < 8 * k then ⟨3, 1, 7, 0, 1⟩ else ⟨0, 0, 0, 0, -1⟩
def zTg : Tg := ⟨0, 0, 0, 0, 0, 0, 0, false, 0#64, 0#64, 0#64, 0#64, 0#64⟩
def tgN (c : Nat) (r : Int) (k : Nat) : List Tg := (List.range c).map fun j => if j = 0 then { zTg with ty := 1, size := r } else if j = 1 then { zTg with ty := 3 } else if j < 2 + k then { zTg with ty := 2, bits := 3, base := 8 * ((j : Int) - 2) } else zTg
theorem slN_len (b k : Nat) : (slN b k).length = b := by simp [slN]
theorem slM_len (b k : Nat) : (slM b k).length = b := by simp [slM]
theorem slF_len (b k : Nat) : (slF b k).length = b := by simp [slF]
theorem tgN_len (c : Nat) (r : Int) (k : Nat) : (tgN c r k).length = c := by simp [tgN]
theorem slN_zero (b : Nat) : List.replicate b (⟨0, 0, 0, 0, 0⟩ : Sl) = slN b 0 := by rw [range_rep]; simp [slN]
theorem slN_step (b i : Nat) : (slN b i).set i ⟨0, 0, 0, 0, -1⟩ = slN b (i + 1) := by
  rw [slN, range_set, slN]
  refine List.map_congr_left fun j _ => ?_
  by_cases c : j = i
  · rw [if_pos c, if_pos (by omega)]
  · rw [if_neg c]
    by_cases c2 : j < i
    · rw [if_pos c2, if_pos (by omega)]
    · rw [if_neg c2, if_neg (by omega)]
theorem slM_zero (b : Nat) : (slN b b).set 0 ⟨1, 0, 7, 0, -1⟩ = slM b 0 := by
  rw [slN, range_set, slM]
  refine List.map_congr_left fun j hj => ?_
  have hj := List.mem_range.1 hj
  by_cases c : j = 0
  · rw [if_pos c, if_pos c]
  · rw [if_neg c, if_neg c, if_pos hj, if_neg (by omega)]
theorem slM_step (b k : Nat) : (slM b k).set (8 * k + 1) ⟨3, 1, 7, 0, 1⟩ = slM b (k + 1) := by
  rw [slM, range_set, slM]
  refine List.map_congr_left fun j hj => ?_
  by_cases c : j = 8 * k + 1
  · rw [if_pos c, if_neg (by omega), if_pos (by omega)]
  · rw [if_neg c]
    by_cases c0 : j = 0
    · rw [if_pos c0, if_pos c0]
    · rw [if_neg c0, if_neg c0]
      by_cases c2 : j % 8 = 1 ∧ j < 8 * k
      · rw [if_pos c2, if_pos (by omega)]
      · rw [if_neg c2, if_neg (by omega)]
theorem slF_eq (b k : Nat) : (slM b k).set 1 ⟨3, 1, 7, 0, -1⟩ = slF b k := by
  rw [slM, range_set, slF]
  refine List.map_congr_left fun j hj => ?_
  by_cases c : j = 1
  · rw [if_pos c, if_neg (by omega), if_pos c]
  · rw [if_neg c]
    by_cases c0 : j = 0
    · rw [if_pos c0, if_pos c0]
    · rw [if_neg c0, if_neg c0, if_neg c]
theorem tgN_zero (c : Nat) (r : Int) : ((List.replicate c zTg).set 0 { zTg with ty := 1, size := r }).set 1 { zTg with ty := 3 } = tgN c r 0 := by
  rw [range_rep, range_set, range_set, tgN]
  refine List.map_congr_left fun j hj => ?_
  by_cases c0 : j = 0
  · rw [if_neg (by omega), if_pos c0, if_pos c0]
  · by_cases c1 : j = 1
    · rw [if_pos c1, if_neg c0, if_pos c1]
    · rw [if_neg c1, if_neg c0, if_neg c0, if_neg c1, if_neg (by omega)]
theorem tgN_step (c : Nat) (r : Int) (k : Nat) : (tgN c r k).set (2 + k) { zTg with ty := 2, bits := 3, base := 8 * (k : Int) } = tgN c r (k + 1) := by
  rw [tgN, range_set, tgN]
  refine List.map_congr_left fun j hj => ?_
  by_cases c0 : j = 2 + k
  · rw [if_pos c0, if_neg (by omega), if_neg (by omega), if_pos (by omega)]
    subst c0
    rw [show (8 * (k : Int)) = 8 * (((2 + k : Nat) : Int) - 2) by omega]
  · rw [if_neg c0]
    by_cases c1 : j = 0
    · rw [if_pos c1, if_pos c1]
    · rw [if_neg c1, if_neg c1]
      by_cases c2 : j = 1
      · rw [if_pos c2, if_pos c2]
      · rw [if_neg c2, if_neg c2]
        by_cases c3 : j < 2 + k
        · rw [if_pos c3, if_pos (by omega)]
        · rw [if_neg c3, if_neg (by omega)]
theorem newT1 (s : Int) : (newT 1 s 0).2 = decide (1 ≤ s ∧ s ≤ 4096) := by
  have hg : goodT (mkT 1 s 0) = decide (1 ≤ s ∧ s ≤ 4096) := by
    unfold goodT mkT
    rw [if_pos rfl]
    rw [show sameT (ownT { noT with ty := 1, size := s }) { noT with ty := 1, size := s } = true from sameT_iff.2 rfl, Bool.true_and]
    dsimp only [noT]
    rw [if_pos rfl]
    simp only [inI, ← Bool.decide_and]
    rw [decide_eq_decide]
    omega
  unfold newT
  rw [hg]
  by_cases c : 1 ≤ s ∧ s ≤ 4096
  · rw [if_pos ⟨by omega, by omega, decide_eq_true c⟩, decide_eq_true c]
  · rw [if_neg (fun h => c (of_decide_eq_true h.2.2)), decide_eq_false c]
theorem newT1v {s : Int} (h : (newT 1 s 0).2 = true) : (newT 1 s 0).1 = { noT with ty := 1, size := s } := by
  unfold newT at h ⊢
  split
  · rfl
  · rename_i c; rw [if_neg c] at h; cases h
theorem newT3 : newT 3 0 0 = ({ noT with ty := 3 }, true) := by kernel_rfl
theorem newT2 {k : Nat} (h : k < 4) : newT 2 3 (8 * (k : Int)) = (⟨2, 3, 8 * (k : Int), 0, 0, 0, 0, false, 0#64, 0#64, 0#64, 0#64, 0#64⟩, true) := by
  rcases (show k = 0 ∨ k = 1 ∨ k = 2 ∨ k = 3 by omega) with rfl | rfl | rfl | rfl <;> kernel_rfl
end Go.Proofs.Ytkcahnefekkfaaa.F12G

namespace Go.Proofs.Ytkcahnefekkfaaa.F12G
open Go Go.Proofs Go.Proofs.YtkcahnefekkfaaaAbs
variable [Base]
set_option maxHeartbeats 8000000
set_option maxRecDepth 100000
abbrev noState : Value := .agg #[.int .i64 0, .int .i64 0, .int .i64 0, .slice none 0 0, .slice none 0 0]
theorem state_New (a b c room : Int) (g : AMem) (n : Nat) (hdom : ∀ i, g i ≠ none → i < n) :
    FnS Try.prog f_state_New [gv a b c, .int .i64 room] g n (fun _ => False) fun v g' n' => (if goodG a b c = true ∧ 1 ≤ room ∧ room ≤ 4096 then
      ∃ m, n ≤ m ∧ m + 1 < n' ∧ v = .tuple #[sv a b c (.slice (some ⟨m, 0, none⟩) b.toNat 5) (.slice (some ⟨m + 1, 0, none⟩) c.toNat 13), .int .i64 0] ∧ g' m = some (.row ((slF b.toNat a.toNat).flatMap cS) true) ∧ g' (m + 1) = some (.row ((tgN c.toNat room a.toNat).flatMap cG) true)
      else v = .tuple #[noState, .int .i64 1]) ∧ Kept g n g' n' := by
  refine fnS_of_rwp t_state_New hm rfl hdom ?_
  have e1 := newT1 room
  have e2 := newT1v (s := room)
  simp (maxSteps := 1000000) (disch := first | assumption | omega | rfl | decide | simp only [fitsR, Bool.and_self]) [↓rules, rules, ↓rulesDp, rulesDq, lit_u64, Int.ofNat_inj, stops, rc_state_New, q_int, q_bool, q_geo_Geo, q_S_state_Slot, q_S_thing_Thing, q_state_State, q_cap_Cap, q_state_Slot, q_api_Errno, q_uint64, q_A4_uint64, q_thing_Thing]
  refine rcall_quiet rfl (thing_New 1 room 0 _ _) ?_
  generalize newT 1 room 0 = R at *
  obtain ⟨T, ok⟩ := R
  dsimp only at *
  subst e1
  by_cases cr : 1 ≤ room ∧ room ≤ 4096
  case neg =>
    rw [decide_eq_false cr]
    obtain ⟨ty, bits, base, size, used, frm, badge, full, word, d0, d1, d2, d3⟩ := T
    simp only [vT, cT]
    simp (maxSteps := 1000000) (disch := first | assumption | omega | rfl | decide | simp only [fitsR, Bool.and_self]) [↓rules, rules, ↓rulesDp, rulesDq, lit_u64, Int.ofNat_inj, stops, q_int, q_bool, q_geo_Geo, q_S_state_Slot, q_S_thing_Thing, q_state_State, q_cap_Cap, q_state_Slot, q_api_Errno, q_uint64, q_A4_uint64, q_thing_Thing]
    refine ⟨by omega, ?_⟩
    refine rcall_quiet rfl (GoodG a b c _ _) ?_
    cases cg : goodG a b c
    · simp (maxSteps := 1000000) (disch := first | assumption | omega | rfl | decide | simp only [fitsR, Bool.and_self]) [↓rules, rules, ↓rulesDp, rulesDq, lit_u64, Int.ofNat_inj, stops, q_int, q_bool, q_geo_Geo, q_S_state_Slot, q_S_thing_Thing, q_state_State, q_cap_Cap, q_state_Slot, q_api_Errno, q_uint64, q_A4_uint64, q_thing_Thing]
      exact sdone_ret (v := .tuple #[noState, .int .i64 1]) (by simp (maxSteps := 1000000) (disch := first | assumption | omega | rfl | decide | simp only [fitsR, Bool.and_self]) [↓rules, rules, ↓rulesDp, rulesDq, lit_u64, Int.ofNat_inj, aResults, aRes, q_int, q_bool, q_geo_Geo, q_S_state_Slot, q_S_thing_Thing, q_state_State, q_cap_Cap, q_state_Slot, q_api_Errno, q_uint64, q_A4_uint64, q_thing_Thing]) ⟨by simp_all, (by repeat first | exact Kept.refl hdom | refine Kept.new ?_ _ | refine Kept.drop ?_ (by omega) | refine Kept.put ?_ (by omega) (by omega) _ | refine Kept.skip ?_)⟩
    · simp (maxSteps := 1000000) (disch := first | assumption | omega | rfl | decide | simp only [fitsR, Bool.and_self]) [↓rules, rules, ↓rulesDp, rulesDq, lit_u64, Int.ofNat_inj, stops, q_int, q_bool, q_geo_Geo, q_S_state_Slot, q_S_thing_Thing, q_state_State, q_cap_Cap, q_state_Slot, q_api_Errno, q_uint64, q_A4_uint64, q_thing_Thing]
      exact sdone_ret (v := .tuple #[noState, .int .i64 1]) (by simp (maxSteps := 1000000) (disch := first | assumption | omega | rfl | decide | simp only [fitsR, Bool.and_self]) [↓rules, rules, ↓rulesDp, rulesDq, lit_u64, Int.ofNat_inj, aResults, aRes, q_int, q_bool, q_geo_Geo, q_S_state_Slot, q_S_thing_Thing, q_state_State, q_cap_Cap, q_state_Slot, q_api_Errno, q_uint64, q_A4_uint64, q_thing_Thing]) ⟨by simp_all, (by repeat first | exact Kept.refl hdom | refine Kept.new ?_ _ | refine Kept.drop ?_ (by omega) | refine Kept.put ?_ (by omega) (by omega) _ | refine Kept.skip ?_)⟩
  rw [decide_eq_true cr] at e2 ⊢
  have e3 := e2 rfl
  clear e2
  subst e3
  simp only [vT, cT, noT]
  simp (maxSteps := 1000000) (disch := first | assumption | omega | rfl | decide | simp only [fitsR, Bool.and_self]) [↓rules, rules, ↓rulesDp, rulesDq, lit_u64, Int.ofNat_inj, stops, q_int, q_bool, q_geo_Geo, q_S_state_Slot, q_S_thing_Thing, q_state_State, q_cap_Cap, q_state_Slot, q_api_Errno, q_uint64, q_A4_uint64, q_thing_Thing]
  refine ⟨by omega, ?_⟩
  refine rcall_quiet rfl (GoodG a b c _ _) ?_
  cases cg : goodG a b c
  · simp (maxSteps := 1000000) (disch := first | assumption | omega | rfl | decide | simp only [fitsR, Bool.and_self]) [↓rules, rules, ↓rulesDp, rulesDq, lit_u64, Int.ofNat_inj, stops, q_int, q_bool, q_geo_Geo, q_S_state_Slot, q_S_thing_Thing, q_state_State, q_cap_Cap, q_state_Slot, q_api_Errno, q_uint64, q_A4_uint64, q_thing_Thing]
    exact sdone_ret (v := .tuple #[noState, .int .i64 1]) (by simp (maxSteps := 1000000) (disch := first | assumption | omega | rfl | decide | simp only [fitsR, Bool.and_self]) [↓rules, rules, ↓rulesDp, rulesDq, lit_u64, Int.ofNat_inj, aResults, aRes, q_int, q_bool, q_geo_Geo, q_S_state_Slot, q_S_thing_Thing, q_state_State, q_cap_Cap, q_state_Slot, q_api_Errno, q_uint64, q_A4_uint64, q_thing_Thing]) ⟨by simp_all, (by repeat first | exact Kept.refl hdom | refine Kept.new ?_ _ | refine Kept.drop ?_ (by omega) | refine Kept.put ?_ (by omega) (by omega) _ | refine Kept.skip ?_)⟩
  obtain ⟨ga, ga4, gb1, gb2, gb3, gc1, gc2⟩ := goodG_iff.1 cg
  obtain ⟨A, rfl⟩ : ∃ A : Nat, a = A := ⟨a.toNat, by omega⟩
  obtain ⟨B, rfl⟩ : ∃ B : Nat, b = B := ⟨b.toNat, by omega⟩
  obtain ⟨C, rfl⟩ : ∃ C : Nat, c = C := ⟨c.toNat, by omega⟩
  simp only [Int.toNat_natCast]
  have h1 : (B : Int) ≤ 70368744177664 := by omega
  have h2 : (C : Int) ≤ 70368744177664 := by omega
  have h3 : B ≤ 70368744177664 := by omega
  have h4 : C ≤ 70368744177664 := by omega
  have h5 : 40 * B ≤ 70368744177664 := by omega
  have h6 : 104 * C ≤ 70368744177664 := by omega
  simp (maxSteps := 1000000) (disch := first | assumption | omega | rfl | decide | simp only [fitsR, Bool.and_self]) [↓rules, rules, ↓rulesDp, rulesDq, lit_u64, Int.ofNat_inj, stops, q_int, q_bool, q_geo_Geo, q_S_state_Slot, q_S_thing_Thing, q_state_State, q_cap_Cap, q_state_Slot, q_api_Errno, q_uint64, q_A4_uint64, q_thing_Thing, h1, h2, h3, h4, h5, h6]
  refine ⟨by omega, ?_⟩
  have hz1 : zeroRow [.int .i64 0, .int .i64 0, .int .i64 0, .int .i64 0, .int .i64 0] B = (slN B 0).flatMap cS := by rw [← slN_zero]; exact zero_flat (enc := cS) (⟨0, 0, 0, 0, 0⟩ : Sl) rfl B
  have hz2 : zeroRow [.int .i64 0, .int .i64 0, .int .i64 0, .int .i64 0, .int .i64 0, .int .i64 0, .int .i64 0, .bool false, U 0#64, U 0#64, U 0#64, U 0#64, U 0#64] C = (List.replicate C zTg).flatMap cG := zero_flat (enc := cG) zTg rfl C
  rw [hz1, hz2]
  obtain ⟨m1, hm1⟩ : ∃ m, m = n + 1 := ⟨_, rfl⟩
  obtain ⟨m2, hm2⟩ : ∃ m, m = n + 1 + 1 := ⟨_, rfl⟩
  obtain ⟨m3, hm3⟩ : ∃ m, m = n + 1 + 1 + 1 := ⟨_, rfl⟩
  obtain ⟨m4, hm4⟩ : ∃ m, m = n + 1 + 1 + 1 + 1 := ⟨_, rfl⟩
  obtain ⟨m5, hm5⟩ : ∃ m, m = n + 1 + 1 + 1 + 1 + 1 := ⟨_, rfl⟩
  rw [← hm5, ← hm4, ← hm3, ← hm2, ← hm1]
  have xn : n ≠ m3 ∧ n ≠ m4 := by omega
  have x1 : m1 ≠ m3 ∧ m1 ≠ m4 := by omega
  have x2 : m2 ≠ m3 ∧ m2 ≠ m4 := by omega
  have x5 : m5 ≠ m3 ∧ m5 ≠ m4 := by omega
  have x34 : m3 ≠ m4 ∧ m4 ≠ m3 := by omega
  have xle : n ≤ m1 ∧ n ≤ m2 ∧ n ≤ m3 ∧ n ≤ m4 := by omega
  have inv : ∃ G, (G = gset (gset (gset (gset (gset (gset g n (some (.row [.int .i64 A, .int .i64 B, .int .i64 C] true))) m1 (some (.row [.int .i64 0, .int .i64 0, .int .i64 0, .slice none 0 0, .slice none 0 0] true))) m2 (some (.row [.int .i64 1, .int .i64 0, .int .i64 0, .int .i64 room, .int .i64 0, .int .i64 0, .int .i64 0, .bool false, U 0#64, U 0#64, U 0#64, U 0#64, U 0#64] true))) m3 (some (.row ((slN B 0).flatMap cS) true))) m4 (some (.row ((List.replicate C zTg).flatMap cG) true))) m5 (some (.row [.int .i64 A, .int .i64 B, .int .i64 C, .slice (some ⟨m3, 0, none⟩) B 5, .slice (some ⟨m4, 0, none⟩) C 13] true))) ∧ Kept g n G (m5 + 1) ∧ G n = some (.row [.int .i64 A, .int .i64 B, .int .i64 C] true) ∧ G m1 = some (.row [.int .i64 0, .int .i64 0, .int .i64 0, .slice none 0 0, .slice none 0 0] true) ∧ G m2 = some (.row [.int .i64 1, .int .i64 0, .int .i64 0, .int .i64 room, .int .i64 0, .int .i64 0, .int .i64 0, .bool false, U 0#64, U 0#64, U 0#64, U 0#64, U 0#64] true) ∧ G m3 = some (.row ((slN B 0).flatMap cS) true) ∧ G m4 = some (.row ((List.replicate C zTg).flatMap cG) true) ∧ G m5 = some (.row [.int .i64 A, .int .i64 B, .int .i64 C, .slice (some ⟨m3, 0, none⟩) B 5, .slice (some ⟨m4, 0, none⟩) C 13] true) := by
    refine ⟨_, rfl, ?_, ?_, ?_, ?_, ?_, ?_, ?_⟩
    · rw [hm1, hm2, hm3, hm4, hm5]; exact (by repeat first | exact Kept.refl hdom | refine Kept.new ?_ _ | refine Kept.drop ?_ (by omega) | refine Kept.put ?_ (by omega) (by omega) _ | refine Kept.skip ?_)
    all_goals simp only [gset]; repeat first | rw [if_pos trivial] | rw [if_neg (by omega)]
  obtain ⟨G, hG, kG, g0, g1, g2, g3, g4, g5⟩ := inv
  rw [← hG]
  clear hG
  refine rwp_loop (fun j l g' n' => ∃ i, j = B - i ∧ i ≤ B ∧ n' = m5 + 1 ∧ Kept g n g' (m5 + 1) ∧ g' n = some (.row [.int .i64 A, .int .i64 B, .int .i64 C] true) ∧ g' m1 = some (.row [.int .i64 0, .int .i64 0, .int .i64 0, .slice none 0 0, .slice none 0 0] true) ∧ g' m2 = some (.row [.int .i64 1, .int .i64 0, .int .i64 0, .int .i64 room, .int .i64 0, .int .i64 0, .int .i64 0, .bool false, U 0#64, U 0#64, U 0#64, U 0#64, U 0#64] true) ∧ g' m3 = some (.row ((slN B i).flatMap cS) true) ∧ g' m4 = some (.row ((List.replicate C zTg).flatMap cG) true) ∧ g' m5 = some (.row [.int .i64 A, .int .i64 B, .int .i64 C, .slice (some ⟨m3, 0, none⟩) B 5, .slice (some ⟨m4, 0, none⟩) C 13] true) ∧ l = [(2, .pointer (some ⟨n, 0, none⟩)), (4, .pointer (some ⟨m1, 0, none⟩)), (6, .pointer (some ⟨m2, 0, none⟩)), (8, .pointer (some ⟨m5, 0, none⟩)), (36, .int .i64 B), (37, .int .i64 i)]) ?_ (k := B) ?_
  · rintro j l g' n' ⟨i, rfl, hi, rfl, kp, s0, s1, s2, s3, s4, s5, rfl⟩
    by_cases hlt : (i : Int) < (B : Int)
    · have hlt1 : i < B := by omega
      have w1 : IntKind.i64.wrap ((i : Int) + 1) = (i : Int) + 1 := wrap_i64 (by omega) (by omega)
      have hfl : ((slN B i).flatMap cS).length = B * 5 := by rw [flat_length cS_len, slN_len]
      have hsp : splice ((slN B i).flatMap cS) (i * 5 + 4) [.int .i64 (-1)] = (slN B (i + 1)).flatMap cS := by
        rw [flat_part cS_len (o := 4) (by simp) (slN B i) i (by rw [slN_len]; exact hlt1) ⟨0, 0, 0, 0, -1⟩ (by
          have : (slN B i)[i]'(by rw [slN_len]; exact hlt1) = ⟨0, 0, 0, 0, 0⟩ := by simp [slN]
          rw [this]; rfl), slN_step]
      generalize (slN B i).flatMap cS = R at *
      have hle : i * 5 + 4 + 1 ≤ B * 5 := by omega
      simp (maxSteps := 1000000) (disch := first | assumption | omega | rfl | decide | simp only [fitsR, Bool.and_self]) [↓rules, rules, ↓rulesDp, rulesDq, lit_u64, Int.ofNat_inj, stops, rc_state_Newl0, q_int, q_bool, q_geo_Geo, q_S_state_Slot, q_S_thing_Thing, q_state_State, q_cap_Cap, q_state_Slot, q_api_Errno, q_uint64, q_A4_uint64, q_thing_Thing, hlt, s5, s3, hfl, hle, hsp, w1]
      exact ⟨by omega, B - (i + 1), by omega, i + 1, rfl, by omega, kp.put (by omega) (by omega) _, s0, s1, s2, rfl, s4, by omega⟩
    · have : i = B := by omega
      subst this
      have hA0 : (0 : Int) < C := by omega
      have hA1 : (1 : Int) < C := by omega
      have hA2 : 0 < C := by omega
      have hA3 : 1 < C := by omega
      have hB0 : (0 : Int) < i := by omega
      have hB1 : 0 < i := by omega
      have hf4 : ((List.replicate C zTg).flatMap cG).length = C * 13 := by rw [flat_length cG_len, List.length_replicate]
      have hf5 : (((List.replicate C zTg).set 0 { zTg with ty := 1, size := room }).flatMap cG).length = C * 13 := by rw [flat_length cG_len, List.length_set, List.length_replicate]
      have hp4 : splice ((List.replicate C zTg).flatMap cG) 0 [.int .i64 1, .int .i64 0, .int .i64 0, .int .i64 room, .int .i64 0, .int .i64 0, .int .i64 0, .bool false, U 0#64, U 0#64, U 0#64, U 0#64, U 0#64] = ((List.replicate C zTg).set 0 { zTg with ty := 1, size := room }).flatMap cG := by
        have := flat_whole cG_len (List.replicate C zTg) 0 (by simpa using hA2) { zTg with ty := 1, size := room }
        rw [Nat.zero_mul] at this
        exact this
      have hp5 : splice (((List.replicate C zTg).set 0 { zTg with ty := 1, size := room }).flatMap cG) 13 [.int .i64 3, .int .i64 0, .int .i64 0, .int .i64 0, .int .i64 0, .int .i64 0, .int .i64 0, .bool false, U 0#64, U 0#64, U 0#64, U 0#64, U 0#64] = (tgN C room 0).flatMap cG := by
        have := flat_whole cG_len ((List.replicate C zTg).set 0 { zTg with ty := 1, size := room }) 1 (by simpa using hA3) { zTg with ty := 3 }
        rw [tgN_zero] at this
        exact this
      have hf3 : ((slN i i).flatMap cS).length = i * 5 := by rw [flat_length cS_len, slN_len]
      have hp3 : splice ((slN i i).flatMap cS) 0 [.int .i64 1, .int .i64 0, .int .i64 7, .int .i64 0] = (slM i 0).flatMap cS := by
        have hs : (slN i i)[0]'(by rw [slN_len]; exact hB1) = ⟨0, 0, 0, 0, -1⟩ := by simp [slN, hB1]
        have := flat_part cS_len (o := 0) (vs := [.int .i64 1, .int .i64 0, .int .i64 7, .int .i64 0]) (by simp) (slN i i) 0 (by rw [slN_len]; exact hB1) ⟨1, 0, 7, 0, -1⟩ (by rw [hs]; rfl)
        rw [slM_zero, Nat.zero_mul] at this
        exact this
      have hroot0 : rootG A i C 0 = 0 := by unfold rootG; split <;> rfl
      have hx13 : 13 ≤ C * 13 := by omega
      have hx26 : 13 + 13 ≤ C * 13 := by omega
      have hx4 : 4 ≤ i * 5 := by omega
      generalize (slN i i).flatMap cS = R3 at *
      generalize (List.replicate C zTg).flatMap cG = R4 at *
      generalize ((List.replicate C zTg).set 0 { zTg with ty := 1, size := room }).flatMap cG = R5 at *
      simp (maxSteps := 1000000) (disch := first | assumption | omega | rfl | decide | simp only [fitsR, Bool.and_self]) [↓rules, rules, ↓rulesDp, rulesDq, lit_u64, Int.ofNat_inj, stops, rc_state_Newl0, q_int, q_bool, q_geo_Geo, q_S_state_Slot, q_S_thing_Thing, q_state_State, q_cap_Cap, q_state_Slot, q_api_Errno, q_uint64, q_A4_uint64, q_thing_Thing, hlt, s5, s4, s2, hA0, hA1, hA2, hA3, hf4, hp4, hx13]
      refine ⟨by omega, ?_⟩
      refine rcall_quiet rfl (thing_New 3 0 0 _ _) ?_
      rw [newT3]
      simp only [vT, cT, noT]
      simp (maxSteps := 1000000) (disch := first | assumption | omega | rfl | decide | simp only [fitsR, Bool.and_self]) [↓rules, rules, ↓rulesDp, rulesDq, lit_u64, Int.ofNat_inj, stops, q_int, q_bool, q_geo_Geo, q_S_state_Slot, q_S_thing_Thing, q_state_State, q_cap_Cap, q_state_Slot, q_api_Errno, q_uint64, q_A4_uint64, q_thing_Thing, s5, s0, hA0, hA1, hA2, hA3, hf5, hp5, hx26]
      refine ⟨by omega, ?_⟩
      refine rcall_quiet rfl (RootG A i C 0 _ _) ?_
      rw [hroot0]
      simp (maxSteps := 1000000) (disch := first | assumption | omega | rfl | decide | simp only [fitsR, Bool.and_self]) [↓rules, rules, ↓rulesDp, rulesDq, lit_u64, Int.ofNat_inj, stops, q_int, q_bool, q_geo_Geo, q_S_state_Slot, q_S_thing_Thing, q_state_State, q_cap_Cap, q_state_Slot, q_api_Errno, q_uint64, q_A4_uint64, q_thing_Thing, s5, s3, s0, hB0, hB1, hf3, hp3, hx4]
      refine ⟨by omega, ?_⟩
      have q0 : gset (gset g' m4 (some (.row ((tgN C room 0).flatMap cG) true))) m3 (some (.row ((slM i 0).flatMap cS) true)) n = some (.row [.int .i64 A, .int .i64 i, .int .i64 C] true) := by rw [gset, if_neg xn.1, gset, if_neg xn.2]; exact s0
      have q1 : gset (gset g' m4 (some (.row ((tgN C room 0).flatMap cG) true))) m3 (some (.row ((slM i 0).flatMap cS) true)) m1 = some (.row [.int .i64 0, .int .i64 0, .int .i64 0, .slice none 0 0, .slice none 0 0] true) := by rw [gset, if_neg x1.1, gset, if_neg x1.2]; exact s1
      have q3 : gset (gset g' m4 (some (.row ((tgN C room 0).flatMap cG) true))) m3 (some (.row ((slM i 0).flatMap cS) true)) m3 = some (.row ((slM i 0).flatMap cS) true) := by rw [gset, if_pos rfl]
      have q4 : gset (gset g' m4 (some (.row ((tgN C room 0).flatMap cG) true))) m3 (some (.row ((slM i 0).flatMap cS) true)) m4 = some (.row ((tgN C room 0).flatMap cG) true) := by rw [gset, if_neg x34.2, gset, if_pos rfl]
      have q5 : gset (gset g' m4 (some (.row ((tgN C room 0).flatMap cG) true))) m3 (some (.row ((slM i 0).flatMap cS) true)) m5 = some (.row [.int .i64 A, .int .i64 i, .int .i64 C, .slice (some ⟨m3, 0, none⟩) i 5, .slice (some ⟨m4, 0, none⟩) C 13] true) := by rw [gset, if_neg x5.1, gset, if_neg x5.2]; exact s5
      have kq : Kept g n (gset (gset g' m4 (some (.row ((tgN C room 0).flatMap cG) true))) m3 (some (.row ((slM i 0).flatMap cS) true))) (m5 + 1) := (kp.put (by omega) (by omega) _).put (by omega) (by omega) _
      generalize gset (gset g' m4 _) m3 _ = H at *
      clear s0 s1 s2 s3 s4 s5 kp
      refine rwp_loop (fun j l g' n' => ∃ t, j = A - t ∧ t ≤ A ∧ n' = m5 + 1 ∧ Kept g n g' (m5 + 1) ∧ g' n = some (.row [.int .i64 A, .int .i64 i, .int .i64 C] true) ∧ g' m1 = some (.row [.int .i64 0, .int .i64 0, .int .i64 0, .slice none 0 0, .slice none 0 0] true) ∧ g' m3 = some (.row ((slM i t).flatMap cS) true) ∧ g' m4 = some (.row ((tgN C room t).flatMap cG) true) ∧ g' m5 = some (.row [.int .i64 A, .int .i64 i, .int .i64 C, .slice (some ⟨m3, 0, none⟩) i 5, .slice (some ⟨m4, 0, none⟩) C 13] true) ∧ l = [(2, .pointer (some ⟨n, 0, none⟩)), (4, .pointer (some ⟨m1, 0, none⟩)), (8, .pointer (some ⟨m5, 0, none⟩)), (10, .int .i64 0), (66, .int .i64 A), (67, .int .i64 t)]) ?_ (k := A) ?_
      · rintro j l g' n' ⟨t, rfl, ht, rfl, kp, s0, s1, s3, s4, s5, rfl⟩
        by_cases hlt2 : (t : Int) < (A : Int)
        · have hlt1 : t < A := by omega
          have w1 : IntKind.i64.wrap ((t : Int) + 1) = (t : Int) + 1 := wrap_i64 (by omega) (by omega)
          have w0 : IntKind.i64.wrap 1 = 1 := rfl
          have w2 : IntKind.i64.wrap (2 + (t : Int)) = ((2 + t : Nat) : Int) := by rw [wrap_i64 (by omega) (by omega)]; omega
          have w3 : IntKind.i64.wrap (8 * (t : Int) + 1) = ((8 * t + 1 : Nat) : Int) := by rw [wrap_i64 (by omega) (by omega)]; omega
          have hrt : rootG A i C t = 8 * (t : Int) := by unfold rootG; rw [if_pos ⟨cg, by omega, by omega⟩]
          have hsl : ((8 * t + 1 : Nat) : Int) < i := by omega
          have hsl2 : 8 * t + 1 < i := by omega
          have htl : ((2 + t : Nat) : Int) < C := by omega
          have htl2 : 2 + t < C := by omega
          have hf3' : ((slM i t).flatMap cS).length = i * 5 := by rw [flat_length cS_len, slM_len]
          have hf4' : ((tgN C room t).flatMap cG).length = C * 13 := by rw [flat_length cG_len, tgN_len]
          have hp4' : splice ((tgN C room t).flatMap cG) ((2 + t) * 13) [.int .i64 2, .int .i64 3, .int .i64 (8 * (t : Int)), .int .i64 0, .int .i64 0, .int .i64 0, .int .i64 0, .bool false, U 0#64, U 0#64, U 0#64, U 0#64, U 0#64] = (tgN C room (t + 1)).flatMap cG := by
            have := flat_whole cG_len (tgN C room t) (2 + t) (by rw [tgN_len]; exact htl2) { zTg with ty := 2, bits := 3, base := 8 * (t : Int) }
            rw [tgN_step] at this
            exact this
          have hp3' : splice ((slM i t).flatMap cS) ((8 * t + 1) * 5) [.int .i64 3, .int .i64 1, .int .i64 7, .int .i64 0, .int .i64 1] = (slM i (t + 1)).flatMap cS := by
            have := flat_whole cS_len (slM i t) (8 * t + 1) (by rw [slM_len]; exact hsl2) ⟨3, 1, 7, 0, 1⟩
            rw [slM_step] at this
            exact this
          have hle3 : (8 * t + 1) * 5 + 5 ≤ i * 5 := by omega
          have hle4 : (2 + t) * 13 + 13 ≤ C * 13 := by omega
          generalize (slM i t).flatMap cS = S3 at *
          generalize (tgN C room t).flatMap cG = S4 at *
          have hnt := newT2 (k := t) (by omega)
          generalize 2 + t = Q at *
          generalize 8 * t + 1 = Z at *
          simp (maxSteps := 1000000) (disch := first | assumption | omega | rfl | decide | simp only [fitsR, Bool.and_self]) [↓rules, rules, ↓rulesDp, rulesDq, lit_u64, Int.ofNat_inj, stops, rc_state_Newl1, q_int, q_bool, q_geo_Geo, q_S_state_Slot, q_S_thing_Thing, q_state_State, q_cap_Cap, q_state_Slot, q_api_Errno, q_uint64, q_A4_uint64, q_thing_Thing, hlt2, s0]
          refine rcall_quiet rfl (RootG A i C t _ _) ?_
          rw [hrt]
          simp (maxSteps := 1000000) (disch := first | assumption | omega | rfl | decide | simp only [fitsR, Bool.and_self]) [↓rules, rules, ↓rulesDp, rulesDq, lit_u64, Int.ofNat_inj, stops, q_int, q_bool, q_geo_Geo, q_S_state_Slot, q_S_thing_Thing, q_state_State, q_cap_Cap, q_state_Slot, q_api_Errno, q_uint64, q_A4_uint64, q_thing_Thing, s5, w2]
          refine rcall_quiet rfl (thing_New 2 3 (8 * (t : Int)) _ _) ?_
          rw [hnt]
          simp only [vT, cT]
          simp (maxSteps := 1000000) (disch := first | assumption | omega | rfl | decide | simp only [fitsR, Bool.and_self]) [↓rules, rules, ↓rulesDp, rulesDq, lit_u64, Int.ofNat_inj, stops, q_int, q_bool, q_geo_Geo, q_S_state_Slot, q_S_thing_Thing, q_state_State, q_cap_Cap, q_state_Slot, q_api_Errno, q_uint64, q_A4_uint64, q_thing_Thing, s5, s4, s3, htl, htl2, hf4', hp4', hle4, w3, hsl, hsl2, hf3', hp3', hle3, w1, w0]
          exact ⟨by omega, by omega, A - (t + 1), by omega, t + 1, rfl, by omega, (kp.put (by omega) (by omega) _).put (by omega) (by omega) _, s0, s1, rfl, rfl, by omega⟩
        · have : t = A := by omega
          subst this
          have w0 : IntKind.i64.wrap 1 = 1 := rfl
          have hi1 : (1 : Int) < i := by omega
          have hi2 : 1 < i := by omega
          have hle9 : 9 + 1 ≤ i * 5 := by omega
          have hf3' : ((slM i t).flatMap cS).length = i * 5 := by rw [flat_length cS_len, slM_len]
          have hp9 : splice ((slM i t).flatMap cS) 9 [.int .i64 (-1)] = (slF i t).flatMap cS := by
            have ht8 : 1 < 8 * t := by omega
            have hs : (slM i t)[1]'(by rw [slM_len]; exact hi2) = ⟨3, 1, 7, 0, 1⟩ := by simp [slM, ht8]
            have := flat_part cS_len (o := 4) (vs := [.int .i64 (-1)]) (by simp) (slM i t) 1 (by rw [slM_len]; exact hi2) ⟨3, 1, 7, 0, -1⟩ (by rw [hs]; rfl)
            rw [slF_eq] at this
            exact this
          generalize (slM i t).flatMap cS = S3 at *
          simp (maxSteps := 1000000) (disch := first | assumption | omega | rfl | decide | simp only [fitsR, Bool.and_self]) [↓rules, rules, ↓rulesDp, rulesDq, lit_u64, Int.ofNat_inj, stops, rc_state_Newl1, q_int, q_bool, q_geo_Geo, q_S_state_Slot, q_S_thing_Thing, q_state_State, q_cap_Cap, q_state_Slot, q_api_Errno, q_uint64, q_A4_uint64, q_thing_Thing, hlt2, s5, s3, s1, w0, hi1, hi2, hle9, hf3', hp9]
          refine ⟨by omega, by omega, ?_⟩
          refine sdone_ret (v := .tuple #[sv t i C (.slice (some ⟨m3, 0, none⟩) i 5) (.slice (some ⟨m4, 0, none⟩) C 13), .int .i64 0]) (by simp (maxSteps := 1000000) (disch := first | assumption | omega | rfl | decide | simp only [fitsR, Bool.and_self]) [↓rules, rules, ↓rulesDp, rulesDq, lit_u64, Int.ofNat_inj, aResults, aRes, q_int, q_bool, q_geo_Geo, q_S_state_Slot, q_S_thing_Thing, q_state_State, q_cap_Cap, q_state_Slot, q_api_Errno, q_uint64, q_A4_uint64, q_thing_Thing]) ⟨?_, (kp.put (by omega) (by omega) _).put (by omega) (by omega) _⟩
          rw [if_pos cr]
          have e43 : m4 = m3 + 1 := by omega
          subst e43
          refine ⟨m3, by omega, by omega, rfl, ?_, ?_⟩
          · rw [gset, if_neg (by omega), gset, if_pos rfl]
          · rw [gset, if_neg (by omega), gset, if_neg (by omega)]; exact s4
      · exact ⟨0, by simp, by simp, rfl, kq, q0, q1, q3, q4, q5, by rfl⟩
  · exact ⟨0, by simp, by simp, rfl, kG, g0, g1, g2, g3, g4, g5, by rfl⟩
end Go.Proofs.Ytkcahnefekkfaaa.F12G

namespace Go.Proofs.Ytkcahnefekkfaaa.F12G
open Go Go.Proofs Go.Proofs.YtkcahnefekkfaaaAbs
variable [Base]
set_option maxHeartbeats 8000000
set_option maxRecDepth 100000
/-! ### The first state may be -/
def slO (A j : Nat) : Sl := if j = 0 then ⟨1, 0, 7, 0, -1⟩ else if j = 1 then ⟨3, 1, 7, 0, -1⟩ else if j % 8 = 1 ∧ j < 8 * A then ⟨3, 1, 7, 0, 1⟩ else ⟨0, 0, 0, 0, -1⟩
def tgO (r : Int) (A j : Nat) : Tg := if j = 0 then { zTg with ty := 1, size := r } else if j = 1 then { zTg with ty := 3 } else if j < 2 + A then { zTg with ty := 2, bits := 3, base := 8 * ((j : Int) - 2) } else zTg
theorem slF_at {A B j : Nat} (h : j < B) : slAt (slF B A) j = slO A j := by
  rw [slAt_nat (by rw [slF_len]; exact h)]
  simp only [slF, List.getElem_map, List.getElem_range]; rfl
theorem tgN_at {A C j : Nat} {r : Int} (h : j < C) : tgAt (tgN C r A) j = tgO r A j := by
  rw [tgAt_nat (by rw [tgN_len]; exact h)]
  simp only [tgN, List.getElem_map, List.getElem_range]; rfl
theorem slO_or (A j : Nat) : (j = 0 ∧ slO A j = ⟨1, 0, 7, 0, -1⟩) ∨ (j = 1 ∧ slO A j = ⟨3, 1, 7, 0, -1⟩) ∨ (1 < j ∧ j % 8 = 1 ∧ j < 8 * A ∧ slO A j = ⟨3, 1, 7, 0, 1⟩) ∨ (slO A j = ⟨0, 0, 0, 0, -1⟩ ∧ 1 < j ∧ ¬ (j % 8 = 1 ∧ j < 8 * A)) := by
  unfold slO
  by_cases c0 : j = 0
  · exact Or.inl ⟨c0, if_pos c0⟩
  by_cases c1 : j = 1
  · exact Or.inr (Or.inl ⟨c1, by rw [if_neg c0, if_pos c1]⟩)
  by_cases c2 : j % 8 = 1 ∧ j < 8 * A
  · exact Or.inr (Or.inr (Or.inl ⟨by omega, c2.1, c2.2, by rw [if_neg c0, if_neg c1, if_pos c2]⟩))
  · exact Or.inr (Or.inr (Or.inr ⟨by rw [if_neg c0, if_neg c1, if_neg c2], by omega, c2⟩))
theorem new_caps {A B C : Nat} {r : Int} (hC : 2 ≤ C) : (slF B A).all (capOk (tgN C r A)) = true := by
  rw [List.all_eq_true]
  intro x hx
  obtain ⟨j, hj, rfl⟩ := List.mem_map.1 hx
  have t0 : tgAt (tgN C r A) 0 = tgO r A 0 := tgN_at (j := 0) (by omega)
  have t1 : tgAt (tgN C r A) 1 = tgO r A 1 := tgN_at (j := 1) (by omega)
  have h0 : thereS (tgN C r A) 0 = true := by
    simp only [thereS, decide_eq_true_eq, tgN_len, t0]
    exact ⟨by omega, by omega, by simp [tgO]⟩
  have h1 : thereS (tgN C r A) 1 = true := by
    simp only [thereS, decide_eq_true_eq, tgN_len, t1]
    exact ⟨by omega, by omega, by simp [tgO]⟩
  change capOk (tgN C r A) (slO A j) = true
  rcases slO_or A j with ⟨_, e⟩ | ⟨_, e⟩ | ⟨_, _, _, e⟩ | ⟨e, _⟩ <;> rw [e]
  · simp only [capOk, h0, t0]; rfl
  · simp only [capOk, h1, t1]; rfl
  · simp only [capOk, h1, t1]; rfl
  · rfl
theorem new_hold0 {A B : Nat} (hB : 0 < B) : holdS (slF B A) 0 ≠ [] := by
  intro h
  have : (0 : Int) ∈ holdS (slF B A) 0 := by
    refine List.mem_map.2 ⟨0, List.mem_filter.2 ⟨List.mem_range.2 (by rw [slF_len]; exact hB), ?_⟩, rfl⟩
    rw [slF_at (j := 0) hB]; rfl
  rw [h] at this
  exact absurd this (by simp)
theorem new_hold1 {A B : Nat} (hB : 1 < B) : holdS (slF B A) 1 ≠ [] := by
  intro h
  have : (1 : Int) ∈ holdS (slF B A) 1 := by
    refine List.mem_map.2 ⟨1, List.mem_filter.2 ⟨List.mem_range.2 (by rw [slF_len]; exact hB), ?_⟩, rfl⟩
    rw [slF_at (j := 1) hB]; rfl
  rw [h] at this
  exact absurd this (by simp)
theorem good_room {r : Int} (h : 1 ≤ r ∧ r ≤ 4096) : goodT (toT { zTg with ty := 1, size := r }) = true := by
  have h1 := newT1 r
  rw [decide_eq_true h] at h1
  unfold newT at h1
  split at h1
  · rename_i c; exact c.2.2
  · cases h1
theorem good_node {k : Nat} (h : k < 4) : goodT (toT { zTg with ty := 2, bits := 3, base := 8 * (k : Int) }) = true := by
  rcases (show k = 0 ∨ k = 1 ∨ k = 2 ∨ k = 3 by omega) with rfl | rfl | rfl | rfl <;> decide +kernel
theorem new_things {A B C : Nat} {r : Int} (cg : goodG A B C = true) (cr : 1 ≤ r ∧ r ≤ 4096) : thingsS A B C (slF B A) (tgN C r A) = true := by
  obtain ⟨ga, ga4, gb1, gb2, gb3, gc1, gc2⟩ := goodG_iff.1 cg
  unfold thingsS
  rw [List.all_eq_true]
  intro i hi
  have hi := List.mem_range.1 hi
  rw [tgN_len] at hi
  rw [tgN_at hi]
  unfold thOk tgO
  by_cases c0 : i = 0
  · subst c0
    rw [if_pos rfl, good_room cr, if_neg (by omega)]
    have h0 := new_hold0 (A := A) (B := B) (by omega)
    simp [frmBad, zTg]
    exact h0
  by_cases c1 : i = 1
  · subst c1
    rw [if_neg (by omega), if_pos rfl, if_neg (by omega)]
    have h0 := new_hold1 (A := A) (B := B) (by omega)
    have h0' : ¬ holdS (slF B A) ((1 : Nat) : Int) = [] := h0
    have hg : goodT (toT { zTg with ty := 3 }) = true := by decide +kernel
    rw [hg]
    simp [frmBad, zTg]
    exact h0
  by_cases c2 : i < 2 + A
  · obtain ⟨k, rfl⟩ : ∃ k, i = 2 + k := ⟨i - 2, by omega⟩
    rw [if_neg c0, if_neg c1, if_pos c2, if_pos (by omega)]
    rw [show (8 * (((2 + k : Nat) : Int) - 2)) = 8 * (k : Int) by omega, show (((2 + k : Nat) : Int) - 2) = k by omega, good_node (by omega)]
    have : rootG A B C k = 8 * (k : Int) := by unfold rootG; rw [if_pos ⟨cg, by omega, by omega⟩]
    rw [this]
    simp [frmBad, zTg, rootT]
  · rw [if_neg c0, if_neg c1, if_neg c2, if_neg (by omega)]
    have hg : goodT (toT zTg) = true := by decide +kernel
    rw [hg]
    simp [frmBad, zTg]
/-! nodes -/
def fillB (B q : Nat) : List Bool := (List.range B).map fun j => decide (j < q)
theorem fillB_len (B q : Nat) : (fillB B q).length = B := by simp [fillB]
theorem fillB_step (B q : Nat) : (fillB B q).set q true = fillB B (q + 1) := by
  rw [fillB, range_set, fillB]
  refine List.map_congr_left fun j _ => ?_
  by_cases c : j = q
  · rw [if_pos c]; symm; simp only [decide_eq_true_eq]; omega
  · rw [if_neg c, decide_eq_decide]; omega
theorem markF_fill (B q : Nat) : ∀ k, q + k ≤ B → markF (fillB B q) q k = some (fillB B (q + k))
  | 0, _ => rfl
  | k + 1, h => by
    rw [markF, markF_fill B q k (by omega)]
    have : (fillB B (q + k)).getD (q + k) true = false := by
      rw [List.getD_eq_getElem?_getD, List.getElem?_eq_getElem (by rw [fillB_len]; omega)]
      simp [fillB]
    rw [Option.bind_some, this, if_neg (by simp), fillB_step]
    rfl
theorem new_fold {A B : Nat} {r : Int} (hAB : 8 * A ≤ B) : ∀ c, ((List.range c).map (tgO r A)).foldl nodeStep (some (fillB B 0)) = some (fillB B (8 * min (c - 2) A))
  | 0 => by simp
  | c + 1 => by
    rw [List.range_succ, List.map_append, List.foldl_append, new_fold hAB c, List.map_cons, List.map_nil, List.foldl_cons, List.foldl_nil]
    unfold nodeStep
    rw [Option.bind_some]
    unfold tgO
    by_cases c0 : c = 0
    · subst c0; rfl
    by_cases c1 : c = 1
    · subst c1; rfl
    by_cases c2 : c < 2 + A
    · rw [if_neg c0, if_neg c1, if_pos c2]
      obtain ⟨k, rfl⟩ : ∃ k, c = 2 + k := ⟨c - 2, by omega⟩
      have e1 : (8 * (((2 + k : Nat) : Int) - 2)).toNat = 8 * k := by omega
      rw [if_pos rfl]
      dsimp only
      rw [e1, show min (2 + k - 2) A = k by omega, show min (2 + k + 1 - 2) A = k + 1 by omega]
      exact markF_fill B (8 * k) 8 (by omega)
    · rw [if_neg c0, if_neg c1, if_neg c2, if_neg (by simp [zTg]), show min (c - 2) A = A by omega, show min (c + 1 - 2) A = A by omega]
theorem new_nodes {A B C : Nat} {r : Int} (hA : 1 ≤ A) (hAB : 8 * A ≤ B) (hC : 2 + A ≤ C) : nodesS (slF B A) (tgN C r A) = true := by
  have e : nodesH (slF B A).length (tgN C r A) = some (fillB B (8 * A)) := by
    unfold nodesH
    rw [slF_len, show List.replicate B false = fillB B 0 by rw [range_rep]; simp [fillB], show tgN C r A = (List.range C).map (tgO r A) from rfl, new_fold hAB C, show min (C - 2) A = A by omega]
  unfold nodesS
  rw [e]
  simp only [List.all_eq_true]
  intro i hi
  have hi := List.mem_range.1 hi
  rw [slF_len] at hi
  rw [slF_at hi, List.getD_eq_getElem?_getD, List.getElem?_eq_getElem (by rw [fillB_len]; exact hi)]
  simp only [fillB, List.getElem_map, List.getElem_range, Option.getD_some, Bool.or_eq_true, decide_eq_true_eq]
  rcases slO_or A i with ⟨_, e⟩ | ⟨_, e⟩ | ⟨_, _, _, e⟩ | ⟨e, _⟩
  · left; omega
  · left; omega
  · left; omega
  · right; rw [e]; rfl
theorem new_ring {A B C : Nat} {r : Int} : ringS (slF B A) (tgN C r A) = false := by
  unfold ringS
  rw [List.any_eq_false]
  intro i hi
  have hi := List.mem_range.1 hi
  rw [slF_len] at hi
  rw [slF_at hi]
  rcases slO_or A i with ⟨_, e⟩ | ⟨_, e⟩ | ⟨_, _, _, e⟩ | ⟨e, _⟩ <;> rw [e] <;> simp
theorem walkF_not {u : List Int} {a : Int} (h : isF u a = false) : ∀ f, walkF u f a = true
  | 0 => by rw [walkF, h]; rfl
  | f + 1 => by rw [walkF, h]; rfl
theorem new_ups {A B : Nat} (hA : 1 ≤ A) (hAB : 8 * A ≤ B) (hB : B ≤ 96) : goodF (upsS (slF B A)) = true := by
  have hl : (upsS (slF B A)).length = B := by rw [upsS, List.length_map, slF_len]
  have hu : ∀ j : Nat, j < B → upAt (upsS (slF B A)) j = upS (slO A j) := fun j hj => by
    rw [upAt_nat (by rw [hl]; exact hj)]
    simp only [upsS, slF, List.getElem_map, List.getElem_range]; rfl
  have h1 : isF (upsS (slF B A)) 1 = true := by
    rw [isF_iff, hl]
    refine ⟨by omega, by omega, ?_⟩
    have := hu 1 (by omega)
    rw [show ((1 : Nat) : Int) = 1 from rfl] at this
    rw [this]
    simp [slO, upS, noneS, noneC]
  have hn : isF (upsS (slF B A)) (-1) = false := by
    cases h : isF (upsS (slF B A)) (-1)
    · rfl
    · have := (isF_iff.1 h).1; omega
  have h1u : upAt (upsS (slF B A)) 1 = -1 := by
    have := hu 1 (by omega)
    rw [show ((1 : Nat) : Int) = 1 from rfl] at this
    rw [this]
    simp [slO, upS, noneS, noneC]
  unfold goodF
  rw [hl, decide_eq_true hB, Bool.true_and, Bool.and_eq_true]
  refine ⟨?_, ?_⟩
  · unfold okUp
    rw [List.all_eq_true]
    intro x hx
    obtain ⟨y, hy, rfl⟩ := List.mem_map.1 hx
    obtain ⟨j, hj, rfl⟩ := List.mem_map.1 hy
    change upOk _ (upS (slO A j)) = true
    rcases slO_or A j with ⟨_, e⟩ | ⟨_, e⟩ | ⟨_, _, _, e⟩ | ⟨e, _⟩ <;> rw [e]
    · simp [upS, noneS, noneC, upOk]
    · simp [upS, noneS, noneC, upOk]
    · simp [upS, noneS, noneC, upOk, h1]
    · simp [upS, noneS, noneC, upOk]
  · rw [List.all_eq_true]
    intro j hj
    have hj := List.mem_range.1 hj
    rw [walkF, hu j hj]
    rcases slO_or A j with ⟨_, e⟩ | ⟨_, e⟩ | ⟨_, _, _, e⟩ | ⟨e, _⟩
    · rw [e]; simp [upS, noneS, noneC, walkF_not hn]
    · rw [e]; simp [upS, noneS, noneC, walkF_not hn]
    · rw [e]
      have : walkF (upsS (slF B A)) B 1 = true := by
        obtain ⟨f, rfl⟩ : ∃ f, B = f + 1 := ⟨B - 1, by omega⟩
        rw [walkF, h1u, walkF_not hn]; simp
      simp [upS, noneS, noneC, this]
    · have : isF (upsS (slF B A)) j = false := by
        cases h : isF (upsS (slF B A)) j
        · rfl
        · have h2 := (isF_iff.1 h).2.2
          rw [hu j hj, e] at h2
          exact absurd rfl h2
      rw [this]; rfl
theorem new_al {A B : Nat} (hB : 1 < B) : (slF B A).all (alOk (slF B A)) = true := by
  rw [List.all_eq_true]
  intro x hx
  obtain ⟨j, hj, rfl⟩ := List.mem_map.1 hx
  change alOk _ (slO A j) = true
  have h1 : slAt (slF B A) 1 = slO A 1 := slF_at (j := 1) hB
  rcases slO_or A j with ⟨_, e⟩ | ⟨_, e⟩ | ⟨_, _, _, e⟩ | ⟨e, _⟩ <;> rw [e]
  · rfl
  · rfl
  · unfold alOk
    dsimp only
    rw [h1, show slO A 1 = ⟨3, 1, 7, 0, -1⟩ from rfl]
    decide +kernel
  · rfl
theorem new_good {A B C : Nat} {r : Int} (cg : goodG A B C = true) (cr : 1 ≤ r ∧ r ≤ 4096) : goodS A B C (slF B A) (tgN C r A) = true := by
  obtain ⟨ga, ga4, gb1, gb2, gb3, gc1, gc2⟩ := goodG_iff.1 cg
  unfold goodS
  rw [cg, slF_len, tgN_len, new_caps (by omega), new_things cg cr, new_nodes (by omega) (by omega) (by omega), new_ring, new_ups (by omega) (by omega) (by omega), new_al (by omega)]
  simp
end Go.Proofs.Ytkcahnefekkfaaa.F12G

namespace Go.Proofs.Ytkcahnefekkfaaa.F12G
open Go Go.Proofs Go.Proofs.YtkcahnefekkfaaaAbs
variable [Base]
set_option maxHeartbeats 8000000
set_option maxRecDepth 100000
theorem IndexFuncT0 (va : Value) (xs : List Tg) (p : Tg → Bool) (k : FuncId) (hk : goFn Try.prog k = true) (g : AMem) (n : Nat) (hp : ∀ x, x ∈ xs → FnC Try.prog k [.agg (cG x).toArray] g n (fun _ => False) (.bool (p x)) g n) (hl : xs.length ≤ 100000) (ha : rdG g va xs) :
    FnC Try.prog f_slices_IndexFunc_S_thing_Thing_thing_Thing [va, .func (.func k) #[] #[]] g n (fun _ => False) (.int .i64 (idxT p xs 0)) g n := by
  refine fnC_of_rwp t_slices_IndexFunc_S_thing_Thing_thing_Thing hm rfl fun hdom => ?_
  obtain ⟨a, ea, hva⟩ := ha.form
  simp (maxSteps := 1000000) (disch := first | assumption | omega | rfl | decide | simp only [fitsR, Bool.and_self]) [↓rules, rules, ↓rulesDp, rulesDq, lit_u64, Int.ofNat_inj, stops, rc_slices_IndexFunc_S_thing_Thing_thing_Thing, q_int, q_bool, q_S_thing_Thing, q_uint64, q_A4_uint64, q_thing_Thing, hva]
  rw [← hva]
  refine rwp_loop (fun j l g' n' => ∃ i, j = xs.length - i ∧ i ≤ xs.length ∧ g' = g ∧ n' = n ∧ idxT p xs 0 = idxT p (xs.drop i) i ∧ l = [(0, va), (1, .func (.func k) #[] #[]), (7, .int .i64 xs.length), (8, .int .i64 i)]) ?_ (k := xs.length) ?_
  · rintro j l g' n' ⟨i, rfl, hi, rfl, rfl, he, rfl⟩
    by_cases hlt : (i : Int) < (xs.length : Int)
    · have hlt1 : i < xs.length := by omega
      obtain ⟨b1, o1, h1, _, h2⟩ := rd_big ha cG_len hlt1
      have e1 := h2 g' (Ext.refl _) Try.prog _ ta_thing_Thing ts_thing_Thing
      rw [List.drop_eq_getElem_cons hlt1, idxT] at he
      simp (maxSteps := 1000000) (disch := first | assumption | omega | rfl | decide | simp only [fitsR, Bool.and_self]) [↓rules, rules, ↓rulesDp, rulesDq, lit_u64, Int.ofNat_inj, stops, rc_slices_IndexFunc_S_thing_Thing_thing_Thingl0, q_int, q_bool, q_S_thing_Thing, q_uint64, q_A4_uint64, q_thing_Thing, hlt, hlt1, h1, e1]
      refine rcall_quiet hk (hp _ (List.getElem_mem hlt1)) ?_
      have w1 : IntKind.i64.wrap ((i : Int) + 1) = ((i + 1 : Nat) : Int) := by rw [wrap_i64 (by omega) (by omega)]; omega
      cases c : p xs[i]
      · rw [c, if_neg (by simp)] at he
        simp (maxSteps := 1000000) (disch := first | assumption | omega | rfl | decide | simp only [fitsR, Bool.and_self]) [↓rules, rules, ↓rulesDp, rulesDq, lit_u64, Int.ofNat_inj, stops, q_int, q_bool, q_S_thing_Thing, q_uint64, q_A4_uint64, q_thing_Thing, w1]
        exact ⟨xs.length - (i + 1), by omega, i + 1, rfl, by omega, he, by omega⟩
      · rw [c, if_pos rfl] at he
        simp (maxSteps := 1000000) (disch := first | assumption | omega | rfl | decide | simp only [fitsR, Bool.and_self]) [↓rules, rules, ↓rulesDp, rulesDq, lit_u64, Int.ofNat_inj, stops, q_int, q_bool, q_S_thing_Thing, q_uint64, q_A4_uint64, q_thing_Thing]
        refine done_q hdom (by repeat first | exact Kept.refl hdom | refine Kept.new ?_ _ | refine Kept.drop ?_ (by omega) | refine Kept.put ?_ (by omega) (by omega) _ | refine Kept.skip ?_) rfl ?_
        rw [he]; rfl
    · have : i = xs.length := by omega
      subst this
      rw [List.drop_length] at he
      simp (maxSteps := 1000000) (disch := first | assumption | omega | rfl | decide | simp only [fitsR, Bool.and_self]) [↓rules, rules, ↓rulesDp, rulesDq, lit_u64, Int.ofNat_inj, stops, rc_slices_IndexFunc_S_thing_Thing_thing_Thingl0, q_int, q_bool, q_S_thing_Thing, q_uint64, q_A4_uint64, q_thing_Thing, hlt]
      refine done_q hdom (by repeat first | exact Kept.refl hdom | refine Kept.new ?_ _ | refine Kept.drop ?_ (by omega) | refine Kept.put ?_ (by omega) (by omega) _ | refine Kept.skip ?_) rfl ?_
      rw [he]; rfl
  · exact ⟨0, by simp, by simp, rfl, rfl, by simp, by rfl⟩
def zeroT (t : Tg) : Bool := decide (t.ty = 0)
theorem free_fn (t : Tg) (g : AMem) (n : Nat) : FnC Try.prog f_state_Free_1 [.agg (cG t).toArray] g n (fun _ => False) (.bool (zeroT t)) g n := by
  refine fnC_of_rwp t_state_Free_1 hm rfl fun hdom => ?_
  have key : (cG t).toArray = #[.int .i64 t.ty, .int .i64 t.bits, .int .i64 t.base, .int .i64 t.size, .int .i64 t.used, .int .i64 t.frm, .int .i64 t.badge, .bool t.full, U t.word, U t.d0, U t.d1, U t.d2, U t.d3] := rfl
  rw [key]
  simp (maxSteps := 1000000) (disch := first | assumption | omega | rfl | decide | simp only [fitsR, Bool.and_self]) [↓rules, rules, ↓rulesDp, rulesDq, lit_u64, Int.ofNat_inj, stops, rc_state_Free_1, q_int, q_bool, q_uint64, q_A4_uint64, q_thing_Thing]
  exact done_q hdom (by repeat first | exact Kept.refl hdom | refine Kept.new ?_ _ | refine Kept.drop ?_ (by omega) | refine Kept.put ?_ (by omega) (by omega) _ | refine Kept.skip ?_) rfl rfl
def freeS (ts : List Tg) : Int := idxT zeroT ts 0
def freeV (a b c : Int) (ss : List Sl) (ts : List Tg) : Int := if goodS a b c ss ts = true then freeS ts else -1
theorem state_Free (a b c : Int) (VS VT : Value) (ss : List Sl) (ts : List Tg) (g : AMem) (n : Nat) (hl : ss.length ≤ 100000) (hl2 : ts.length ≤ 100000) (hs : rdS g VS ss) (ht : rdG g VT ts) :
    FnC Try.prog f_state_Free [sv a b c VS VT] g n (fun _ => False) (.int .i64 (freeV a b c ss ts)) g n := by
  refine fnC_of_rwp t_state_Free hm rfl fun hdom => ?_
  have k1 : Kept g n (gset g n (some (rowS a b c VS VT))) (n + 1) := (by repeat first | exact Kept.refl hdom | refine Kept.new ?_ _ | refine Kept.drop ?_ (by omega) | refine Kept.put ?_ (by omega) (by omega) _ | refine Kept.skip ?_)
  have hs1 := hs.ext (k1.ext hdom)
  have ht1 := ht.ext (k1.ext hdom)
  have r0 : gset g n (some (rowS a b c VS VT)) n = some (rowS a b c VS VT) := by rw [gset, if_pos rfl]
  simp (maxSteps := 1000000) (disch := first | assumption | omega | rfl | decide | simp only [fitsR, Bool.and_self]) [↓rules, rules, ↓rulesDp, rulesDq, lit_u64, Int.ofNat_inj, stops, rc_state_Free, q_int, q_bool, q_geo_Geo, q_S_state_Slot, q_S_thing_Thing, q_state_State, q_cap_Cap, q_state_Slot, q_uint64, q_A4_uint64, q_thing_Thing]
  generalize gset g n (some (rowS a b c VS VT)) = G at *
  refine rcall_quiet rfl (state_Good a b c VS VT ss ts _ _ hl hl2 hs1 ht1) ?_
  unfold freeV
  cases hgd : goodS a b c ss ts
  · rw [if_neg (by simp)]
    simp (maxSteps := 1000000) (disch := first | assumption | omega | rfl | decide | simp only [fitsR, Bool.and_self]) [↓rules, rules, ↓rulesDp, rulesDq, lit_u64, Int.ofNat_inj, stops, q_int, q_bool, q_geo_Geo, q_S_state_Slot, q_S_thing_Thing, q_state_State, q_cap_Cap, q_state_Slot, q_uint64, q_A4_uint64, q_thing_Thing]
    exact done_q hdom k1 rfl rfl
  rw [if_pos rfl]
  simp (maxSteps := 1000000) (disch := first | assumption | omega | rfl | decide | simp only [fitsR, Bool.and_self]) [↓rules, rules, ↓rulesDp, rulesDq, lit_u64, Int.ofNat_inj, stops, q_int, q_bool, q_geo_Geo, q_S_state_Slot, q_S_thing_Thing, q_state_State, q_cap_Cap, q_state_Slot, q_uint64, q_A4_uint64, q_thing_Thing, r0]
  refine rcall_quiet rfl (IndexFuncT0 VT ts zeroT _ (by kernel_rfl) _ _ (fun x hx => free_fn x _ _) hl2 ht1) ?_
  simp (maxSteps := 1000000) (disch := first | assumption | omega | rfl | decide | simp only [fitsR, Bool.and_self]) [↓rules, rules, ↓rulesDp, rulesDq, lit_u64, Int.ofNat_inj, stops, q_int, q_bool, q_geo_Geo, q_S_state_Slot, q_S_thing_Thing, q_state_State, q_cap_Cap, q_state_Slot, q_uint64, q_A4_uint64, q_thing_Thing]
  exact done_q hdom k1 rfl rfl
/-! pure -/
theorem idxT_first (p : Tg → Bool) : ∀ (l : List Tg) (i : Int) (k : Nat) (hk : k < l.length), (∀ j (hj : j < k), p (l[j]'(by omega)) = false) → p l[k] = true → idxT p l i = i + k
  | x :: l, i, 0, _, _, h => by
    simp only [List.getElem_cons_zero] at h
    rw [idxT, if_pos h]; simp
  | x :: l, i, k + 1, hk, h0, h => by
    have h1 := h0 0 (by omega)
    simp only [List.getElem_cons_zero] at h1
    simp only [List.getElem_cons_succ] at h
    rw [idxT, h1, if_neg (by simp), idxT_first p l (i + 1) k (by simpa using hk) (fun j hj => by
      have := h0 (j + 1) (by omega)
      simpa only [List.getElem_cons_succ] using this) h]
    omega
theorem idxT_none (p : Tg → Bool) : ∀ (l : List Tg) (i : Int), (∀ x, x ∈ l → p x = false) → idxT p l i = -1
  | [], _, _ => rfl
  | x :: l, i, h => by
    rw [idxT, h x List.mem_cons_self, if_neg (by simp)]
    exact idxT_none p l (i + 1) fun y hy => h y (List.mem_cons_of_mem _ hy)
theorem tgN_get {A C j : Nat} {r : Int} (h : j < (tgN C r A).length) : (tgN C r A)[j] = tgO r A j := by
  simp only [tgN, List.getElem_map, List.getElem_range]; rfl
theorem new_owner {A C t : Nat} {r : Int} (ht : t < A) (hC : 2 + A ≤ C) : ownerS (tgN C r A) ((8 * t + 7 : Nat) : Int) = ((2 + t : Nat) : Int) := by
  unfold ownerS
  have hl : 2 + t < (tgN C r A).length := by rw [tgN_len]; omega
  have hnode : ∀ k, k < A → tgO r A (2 + k) = { zTg with ty := 2, bits := 3, base := 8 * (k : Int) } := fun k hk => by
    unfold tgO
    rw [if_neg (by omega), if_neg (by omega), if_pos (by omega), show (8 * (((2 + k : Nat) : Int) - 2)) = 8 * (k : Int) by omega]
  have e8 : ((2 ^ (3 : Int).toNat : Nat) : Int) = 8 := rfl
  have h0 : ∀ j (hj : j < 2 + t), hasS ((tgN C r A)[j]'(by omega)) ((8 * t + 7 : Nat) : Int) = false := fun j hj => by
    rw [tgN_get]
    by_cases c : j < 2
    · have : j = 0 ∨ j = 1 := by omega
      rcases this with rfl | rfl <;> simp [tgO, hasS, zTg]
    · obtain ⟨k, rfl⟩ : ∃ k, j = 2 + k := ⟨j - 2, by omega⟩
      rw [hnode k (by omega)]
      simp only [hasS, zTg, decide_true, Bool.true_and, e8, Bool.and_eq_false_iff, decide_eq_false_iff_not]
      omega
  have h1 : hasS ((tgN C r A)[2 + t]) ((8 * t + 7 : Nat) : Int) = true := by
    rw [tgN_get, hnode t ht]
    simp only [hasS, zTg, decide_true, Bool.true_and, e8, Bool.and_eq_true, decide_eq_true_eq]
    omega
  rw [idxT_first _ _ 0 (2 + t) hl h0 h1, Int.zero_add]
theorem new_free {A C : Nat} {r : Int} (hC : 2 + A ≤ C) : freeS (tgN C r A) = if 2 + A < C then ((2 + A : Nat) : Int) else -1 := by
  unfold freeS
  have hz : ∀ j, j < 2 + A → zeroT (tgO r A j) = false := fun j hj => by
    unfold tgO
    by_cases c0 : j = 0
    · rw [if_pos c0]; rfl
    by_cases c1 : j = 1
    · rw [if_neg c0, if_pos c1]; rfl
    rw [if_neg c0, if_neg c1, if_pos hj]; rfl
  by_cases c : 2 + A < C
  · rw [if_pos c]
    have hl : 2 + A < (tgN C r A).length := by rw [tgN_len]; exact c
    rw [idxT_first _ _ 0 (2 + A) hl (fun j hj => by rw [tgN_get]; exact hz j hj) ?_, Int.zero_add]
    rw [tgN_get]
    unfold tgO
    rw [if_neg (by omega), if_neg (by omega), if_neg (by omega)]; rfl
  · rw [if_neg c]
    refine idxT_none _ _ _ fun x hx => ?_
    obtain ⟨j, hj, rfl⟩ := List.mem_map.1 hx
    have hj := List.mem_range.1 hj
    exact hz j (by omega)
theorem count_upto (A : Nat) : ∀ k, k ≤ A → ((List.range (8 * k)).filter fun j => decide (j % 8 = 1)).length = k
  | 0, _ => rfl
  | k + 1, h => by
    rw [show 8 * (k + 1) = 8 * k + 8 by omega, List.range_add, List.filter_append, List.length_append, count_upto A k (by omega), List.filter_map, List.length_map]
    congr 1
    rw [List.filter_congr (q := fun j => decide (j = 1)) fun j hj => by
      have := List.mem_range.1 hj
      simp only [Function.comp, decide_eq_decide]; omega]
    decide
theorem new_holders {A B : Nat} (hA : 1 ≤ A) (hAB : 8 * A ≤ B) : (holdS (slF B A) 1).length = A := by
  unfold holdS holdU
  rw [List.length_map, slF_len]
  have hp : ∀ j, j < B → ((!noneS (slAt (slF B A) j) && decide ((slAt (slF B A) j).th = 1)) = decide (j % 8 = 1 ∧ j < 8 * A)) := fun j hj => by
    rw [slF_at hj]
    rcases slO_or A j with ⟨h, e⟩ | ⟨h, e⟩ | ⟨_, h1, h2, e⟩ | ⟨e, h, h2⟩ <;> rw [e]
    · subst h; simp
    · subst h
      rw [decide_eq_true (show 1 % 8 = 1 ∧ 1 < 8 * A by omega)]; rfl
    · rw [decide_eq_true (show j % 8 = 1 ∧ j < 8 * A from ⟨h1, h2⟩)]; rfl
    · rw [decide_eq_false h2]; rfl
  rw [List.filter_congr (q := fun j => decide (j % 8 = 1 ∧ j < 8 * A)) fun j hj => hp j (List.mem_range.1 hj)]
  obtain ⟨R, rfl⟩ : ∃ R, B = 8 * A + R := ⟨B - 8 * A, by omega⟩
  rw [List.range_add, List.filter_append, List.length_append]
  rw [List.filter_congr (q := fun j => decide (j % 8 = 1)) fun j hj => by
    have := List.mem_range.1 hj
    rw [decide_eq_decide]; omega]
  rw [count_upto A A (Nat.le_refl _)]
  have : ((List.range R).map (8 * A + ·)).filter (fun j => decide (j % 8 = 1 ∧ j < 8 * A)) = [] := by
    rw [List.filter_eq_nil_iff]
    intro x hx
    obtain ⟨y, _, rfl⟩ := List.mem_map.1 hx
    simp only [decide_eq_true_eq]; omega
  rw [this]; rfl
end Go.Proofs.Ytkcahnefekkfaaa.F12G

namespace Go.Proofs.Ytkcahnefekkfaaa.F12G
open Go Go.Proofs Go.Proofs.YtkcahnefekkfaaaAbs
variable [Base]
set_option maxHeartbeats 8000000
set_option maxRecDepth 100000
theorem stateNew (a b c : Int) (room : Int) (g : AMem) (n : Nat) (hdom : ∀ i, g i ≠ none → i < n) :
    FnC Try.prog f_reevelaw12_StateNew [gv a b c, .int .i64 room] g n (fun _ => False) (.bool true) g n := by
  refine fnC_of_rwp t_reevelaw12_StateNew hm rfl fun hdom => ?_
  have k1 : Kept g n (gset g n (some (.row [.int .i64 a, .int .i64 b, .int .i64 c] true))) (n + 1) := (by repeat first | exact Kept.refl hdom | refine Kept.new ?_ _ | refine Kept.drop ?_ (by omega) | refine Kept.put ?_ (by omega) (by omega) _ | refine Kept.skip ?_)
  have r0 : gset g n (some (.row [.int .i64 a, .int .i64 b, .int .i64 c] true)) n = some (.row [.int .i64 a, .int .i64 b, .int .i64 c] true) := by rw [gset, if_pos rfl]
  simp (maxSteps := 1000000) (disch := first | assumption | omega | rfl | decide | simp only [fitsR, Bool.and_self]) [↓rules, rules, ↓rulesDp, rulesDq, lit_u64, Int.ofNat_inj, stops, rc_reevelaw12_StateNew, q_int, q_bool, q_geo_Geo, q_S_state_Slot, q_S_thing_Thing, q_state_State, q_cap_Cap, q_state_Slot, q_S_int, q_api_Errno, q_uint64, q_A4_uint64, q_thing_Thing]
  generalize gset g n _ = G at *
  refine rcall_quiet rfl (awake12 _ _) ?_
  simp (maxSteps := 1000000) (disch := first | assumption | omega | rfl | decide | simp only [fitsR, Bool.and_self]) [↓rules, rules, ↓rulesDp, rulesDq, lit_u64, Int.ofNat_inj, stops, q_int, q_bool, q_geo_Geo, q_S_state_Slot, q_S_thing_Thing, q_state_State, q_cap_Cap, q_state_Slot, q_S_int, q_api_Errno, q_uint64, q_A4_uint64, q_thing_Thing, r0]
  refine rcall_spec (state_New a b c room _ _ k1.dom) rfl (fun _ h => h.elim) rfl fun v g1 n1 ⟨p1, q1⟩ => ?_
  have k2 := k1.trans q1
  have l2 := q1.le
  have s0 : g1 n = some (.row [.int .i64 a, .int .i64 b, .int .i64 c] true) := by rw [q1.same _ (by omega)]; exact r0
  by_cases hc : goodG a b c = true ∧ 1 ≤ room ∧ room ≤ 4096
  case neg =>
    rw [if_neg hc] at p1
    subst p1
    simp (maxSteps := 1000000) (disch := first | assumption | omega | rfl | decide | simp only [fitsR, Bool.and_self]) [↓rules, rules, ↓rulesDp, rulesDq, lit_u64, Int.ofNat_inj, stops, q_int, q_bool, q_geo_Geo, q_S_state_Slot, q_S_thing_Thing, q_state_State, q_cap_Cap, q_state_Slot, q_S_int, q_api_Errno, q_uint64, q_A4_uint64, q_thing_Thing, s0]
    refine ⟨by omega, ?_⟩
    refine rcall_quiet rfl (GoodG a b c _ _) ?_
    cases cg : goodG a b c
    · simp (maxSteps := 1000000) (disch := first | assumption | omega | rfl | decide | simp only [fitsR, Bool.and_self]) [↓rules, rules, ↓rulesDp, rulesDq, lit_u64, Int.ofNat_inj, stops, q_int, q_bool, q_geo_Geo, q_S_state_Slot, q_S_thing_Thing, q_state_State, q_cap_Cap, q_state_Slot, q_S_int, q_api_Errno, q_uint64, q_A4_uint64, q_thing_Thing]
      exact done_q hdom (by repeat first | exact k2 | refine Kept.new ?_ _ | refine Kept.drop ?_ (by omega) | refine Kept.put ?_ (by omega) (by omega) _ | refine Kept.skip ?_) rfl rfl
    by_cases c1 : room < 1
    · simp (maxSteps := 1000000) (disch := first | assumption | omega | rfl | decide | simp only [fitsR, Bool.and_self]) [↓rules, rules, ↓rulesDp, rulesDq, lit_u64, Int.ofNat_inj, stops, q_int, q_bool, q_geo_Geo, q_S_state_Slot, q_S_thing_Thing, q_state_State, q_cap_Cap, q_state_Slot, q_S_int, q_api_Errno, q_uint64, q_A4_uint64, q_thing_Thing, c1]
      exact done_q hdom (by repeat first | exact k2 | refine Kept.new ?_ _ | refine Kept.drop ?_ (by omega) | refine Kept.put ?_ (by omega) (by omega) _ | refine Kept.skip ?_) rfl rfl
    have c2 : 4096 < room := by
      rw [cg] at hc
      by_cases h : 4096 < room
      · exact h
      · exact absurd ⟨rfl, by omega, by omega⟩ hc
    simp (maxSteps := 1000000) (disch := first | assumption | omega | rfl | decide | simp only [fitsR, Bool.and_self]) [↓rules, rules, ↓rulesDp, rulesDq, lit_u64, Int.ofNat_inj, stops, q_int, q_bool, q_geo_Geo, q_S_state_Slot, q_S_thing_Thing, q_state_State, q_cap_Cap, q_state_Slot, q_S_int, q_api_Errno, q_uint64, q_A4_uint64, q_thing_Thing, c1, c2]
    exact done_q hdom (by repeat first | exact k2 | refine Kept.new ?_ _ | refine Kept.drop ?_ (by omega) | refine Kept.put ?_ (by omega) (by omega) _ | refine Kept.skip ?_) rfl rfl
  rw [if_pos hc] at p1
  obtain ⟨m, hm1, hm2, rfl, x1, x2⟩ := p1
  obtain ⟨cg, cr⟩ := hc
  obtain ⟨ga, ga4, gb1, gb2, gb3, gc1, gc2⟩ := goodG_iff.1 cg
  obtain ⟨A, rfl⟩ : ∃ A : Nat, a = A := ⟨a.toNat, by omega⟩
  obtain ⟨B, rfl⟩ : ∃ B : Nat, b = B := ⟨b.toNat, by omega⟩
  obtain ⟨C, rfl⟩ : ∃ C : Nat, c = C := ⟨c.toNat, by omega⟩
  simp only [Int.toNat_natCast] at x1 x2 ⊢
  have hgd := new_good (r := room) cg cr
  have hs1 : rdS g1 (.slice (some ⟨m, 0, none⟩) B 5) (slF B A) := Gb_rd cS_len (Or.inr ⟨m, Nat.zero_le _, by rw [slF_len], x1⟩ : Gb 5 cS 0 g1 _ (slF B A))
  have ht1 : rdG g1 (.slice (some ⟨m + 1, 0, none⟩) C 13) (tgN C room A) := Gb_rd cG_len (Or.inr ⟨m + 1, Nat.zero_le _, by rw [tgN_len], x2⟩ : Gb 13 cG 0 g1 _ (tgN C room A))
  have k3 : Kept g n (gset g1 n1 (some (rowS A B C (.slice (some ⟨m, 0, none⟩) B 5) (.slice (some ⟨m + 1, 0, none⟩) C 13)))) (n1 + 1) := (by repeat first | exact k2 | refine Kept.new ?_ _ | refine Kept.drop ?_ (by omega) | refine Kept.put ?_ (by omega) (by omega) _ | refine Kept.skip ?_)
  have q3 : Kept g1 n1 (gset g1 n1 (some (rowS A B C (.slice (some ⟨m, 0, none⟩) B 5) (.slice (some ⟨m + 1, 0, none⟩) C 13)))) (n1 + 1) := (Kept.refl k2.dom).new _
  have hs3 := hs1.ext (q3.ext k2.dom)
  have ht3 := ht1.ext (q3.ext k2.dom)
  have s3 : gset g1 n1 (some (rowS A B C (.slice (some ⟨m, 0, none⟩) B 5) (.slice (some ⟨m + 1, 0, none⟩) C 13))) n = some (.row [.int .i64 A, .int .i64 B, .int .i64 C] true) := by rw [gset, if_neg (by omega)]; exact s0
  have s4 : gset g1 n1 (some (rowS A B C (.slice (some ⟨m, 0, none⟩) B 5) (.slice (some ⟨m + 1, 0, none⟩) C 13))) n1 = some (rowS A B C (.slice (some ⟨m, 0, none⟩) B 5) (.slice (some ⟨m + 1, 0, none⟩) C 13)) := by rw [gset, if_pos rfl]
  simp (maxSteps := 1000000) (disch := first | assumption | omega | rfl | decide | simp only [fitsR, Bool.and_self]) [↓rules, rules, ↓rulesDp, rulesDq, lit_u64, Int.ofNat_inj, stops, q_int, q_bool, q_geo_Geo, q_S_state_Slot, q_S_thing_Thing, q_state_State, q_cap_Cap, q_state_Slot, q_S_int, q_api_Errno, q_uint64, q_A4_uint64, q_thing_Thing]
  generalize gset g1 n1 _ = G2 at *
  refine ⟨by omega, ?_⟩
  have hl1 : (slF B A).length ≤ 100000 := by rw [slF_len]; omega
  have hl2 : (tgN C room A).length ≤ 100000 := by rw [tgN_len]; omega
  refine rcall_quiet rfl (state_Good A B C _ _ _ _ _ _ hl1 hl2 hs3 ht3) ?_
  rw [hgd]
  simp (maxSteps := 1000000) (disch := first | assumption | omega | rfl | decide | simp only [fitsR, Bool.and_self]) [↓rules, rules, ↓rulesDp, rulesDq, lit_u64, Int.ofNat_inj, stops, q_int, q_bool, q_geo_Geo, q_S_state_Slot, q_S_thing_Thing, q_state_State, q_cap_Cap, q_state_Slot, q_S_int, q_api_Errno, q_uint64, q_A4_uint64, q_thing_Thing, s3, s4]
  refine rwp_loop (fun j l g' n' => ∃ t, j = A - t ∧ t ≤ A ∧ Kept g n g' n' ∧ Kept g1 n1 g' n' ∧ n1 + 1 ≤ n' ∧ g' n = some (.row [.int .i64 A, .int .i64 B, .int .i64 C] true) ∧ g' n1 = some (rowS A B C (.slice (some ⟨m, 0, none⟩) B 5) (.slice (some ⟨m + 1, 0, none⟩) C 13)) ∧ l = [(2, .pointer (some ⟨n, 0, none⟩)), (5, .pointer (some ⟨n1, 0, none⟩)), (7, .int .i64 t)]) ?_ (k := A) ?_
  · rintro j l g' n' ⟨t, rfl, ht, kp, kq, hn', u0, u1, rfl⟩
    have hs5 := hs1.ext (kq.ext k2.dom)
    have ht5 := ht1.ext (kq.ext k2.dom)
    by_cases hlt : (t : Int) < (A : Int)
    · have hrt : rootG A B C t = 8 * (t : Int) := by unfold rootG; rw [if_pos ⟨cg, by omega, by omega⟩]
      have w1 : IntKind.i64.wrap (8 * (t : Int) + 1) = ((8 * t + 1 : Nat) : Int) := by rw [wrap_i64 (by omega) (by omega)]; omega
      have w2 : IntKind.i64.wrap (8 * (t : Int) + 7) = 8 * (t : Int) + 7 := wrap_i64 (by omega) (by omega)
      have w3 : IntKind.i64.wrap (2 + (t : Int)) = 2 + (t : Int) := wrap_i64 (by omega) (by omega)
      have w4 : IntKind.i64.wrap ((t : Int) + 1) = (t : Int) + 1 := wrap_i64 (by omega) (by omega)
      have hz1 : 8 * t + 1 < (slF B A).length := by rw [slF_len]; omega
      have hz2 : 8 * t + 1 < B := by omega
      have hz3 : ((8 * t + 1 : Nat) : Int) < B := by omega
      have hat : (slF B A)[8 * t + 1] = slO A (8 * t + 1) := by simp only [slF, List.getElem_map, List.getElem_range]; rfl
      obtain ⟨b1, o1, f1, f2⟩ := rd_slot hs5 hz1
      have e1 := (f2 _ (Ext.refl _)).1 Try.prog _ ta_cap_Cap ts_cap_Cap
      have hcp : (slO A (8 * t + 1)).ty = 3 ∧ (slO A (8 * t + 1)).th = 1 ∧ (slO A (8 * t + 1)).ri = 7 ∧ (slO A (8 * t + 1)).ba = 0 := by
        rcases slO_or A (8 * t + 1) with ⟨h, e⟩ | ⟨h, e⟩ | ⟨_, _, _, e⟩ | ⟨e, _, h⟩
        · omega
        · rw [e]; exact ⟨rfl, rfl, rfl, rfl⟩
        · rw [e]; exact ⟨rfl, rfl, rfl, rfl⟩
        · exact absurd ⟨by omega, by omega⟩ h
      rw [hat, hcp.1, hcp.2.1, hcp.2.2.1, hcp.2.2.2] at e1
      rw [slF_len] at f1
      simp only [Value.slice.injEq, Option.some.injEq, Addr.mk.injEq] at f1
      obtain ⟨⟨rfl, rfl, _⟩, _⟩ := f1
      rw [Nat.zero_add] at e1
      have how := new_owner (t := t) (A := A) (C := C) (r := room) (by omega) (by omega)
      generalize 8 * t + 1 = Z at *
      simp (maxSteps := 1000000) (disch := first | assumption | omega | rfl | decide | simp only [fitsR, Bool.and_self]) [↓rules, rules, ↓rulesDp, rulesDq, lit_u64, Int.ofNat_inj, stops, rc_reevelaw12_StateNewl0, q_int, q_bool, q_geo_Geo, q_S_state_Slot, q_S_thing_Thing, q_state_State, q_cap_Cap, q_state_Slot, q_S_int, q_api_Errno, q_uint64, q_A4_uint64, q_thing_Thing, hlt, u0, u1]
      refine dcall_quiet kp.dom rfl (RootG A B C t _ _) (by simp (maxSteps := 1000000) (disch := first | assumption | omega | rfl | decide | simp only [fitsR, Bool.and_self]) [↓rules, rules, ↓rulesDp, rulesDq, lit_u64, Int.ofNat_inj]) ?_
      rw [hrt]
      simp (maxSteps := 1000000) (disch := first | assumption | omega | rfl | decide | simp only [fitsR, Bool.and_self]) [↓rules, rules, ↓rulesDp, rulesDq, lit_u64, Int.ofNat_inj, stops, q_int, q_bool, q_geo_Geo, q_S_state_Slot, q_S_thing_Thing, q_state_State, q_cap_Cap, q_state_Slot, q_S_int, q_api_Errno, q_uint64, q_A4_uint64, q_thing_Thing, u0, u1, w1, hz2, hz3, e1]
      have hq : ∀ xo yo, aBin Try.prog .neq T_cap_Cap xo yo (.agg #[.int .i64 3, .int .i64 1, .int .i64 7, .int .i64 0]) (.agg #[.int .i64 3, .int .i64 1, .int .i64 7, .int .i64 0]) = some (.bool false) := fun xo yo => bne_cap_Cap xo yo [.int .i64 3, .int .i64 1, .int .i64 7, .int .i64 0] [.int .i64 3, .int .i64 1, .int .i64 7, .int .i64 0] rfl rfl
      refine ⟨by omega, ?_⟩
      have k4 : Kept g n (gset g' n' (some (.row [.int .i64 3, .int .i64 1, .int .i64 7, .int .i64 0] true))) (n' + 1) := (by repeat first | exact kp | refine Kept.new ?_ _ | refine Kept.drop ?_ (by omega) | refine Kept.put ?_ (by omega) (by omega) _ | refine Kept.skip ?_)
      have kq4 : Kept g1 n1 (gset g' n' (some (.row [.int .i64 3, .int .i64 1, .int .i64 7, .int .i64 0] true))) (n' + 1) := (by repeat first | exact kq | refine Kept.new ?_ _ | refine Kept.drop ?_ (by omega) | refine Kept.put ?_ (by omega) (by omega) _ | refine Kept.skip ?_)
      have v0 : gset g' n' (some (.row [.int .i64 3, .int .i64 1, .int .i64 7, .int .i64 0] true)) n = some (.row [.int .i64 A, .int .i64 B, .int .i64 C] true) := by rw [gset, if_neg (by omega)]; exact u0
      have v1 : gset g' n' (some (.row [.int .i64 3, .int .i64 1, .int .i64 7, .int .i64 0] true)) n1 = some (rowS A B C (.slice (some ⟨m, 0, none⟩) B 5) (.slice (some ⟨m + 1, 0, none⟩) C 13)) := by rw [gset, if_neg (by omega)]; exact u1
      have hs7 := hs1.ext (kq4.ext k2.dom)
      have ht7 := ht1.ext (kq4.ext k2.dom)
      generalize gset g' n' _ = G4 at *
      simp (maxSteps := 1000000) (disch := first | assumption | omega | rfl | decide | simp only [fitsR, Bool.and_self]) [↓rules, rules, ↓rulesDp, rulesDq, lit_u64, Int.ofNat_inj, stops, q_int, q_bool, q_geo_Geo, q_S_state_Slot, q_S_thing_Thing, q_state_State, q_cap_Cap, q_state_Slot, q_S_int, q_api_Errno, q_uint64, q_A4_uint64, q_thing_Thing, hq, v0, v1]
      refine rcall_quiet rfl (RootG A B C t _ _) ?_
      rw [hrt]
      simp (maxSteps := 1000000) (disch := first | assumption | omega | rfl | decide | simp only [fitsR, Bool.and_self]) [↓rules, rules, ↓rulesDp, rulesDq, lit_u64, Int.ofNat_inj, stops, q_int, q_bool, q_geo_Geo, q_S_state_Slot, q_S_thing_Thing, q_state_State, q_cap_Cap, q_state_Slot, q_S_int, q_api_Errno, q_uint64, q_A4_uint64, q_thing_Thing, w2]
      refine rcall_quiet rfl (state_Owner A B C _ _ _ _ _ _ _ hl1 hl2 hs7 ht7) ?_
      rw [show ((8 * t + 7 : Nat) : Int) = 8 * (t : Int) + 7 by omega] at how
      rw [show ownV A B C (slF B A) (tgN C room A) (8 * (t : Int) + 7) = 2 + (t : Int) from (if_pos ⟨hgd, by omega, by rw [slF_len]; omega⟩).trans (how.trans (by omega))]
      simp (maxSteps := 1000000) (disch := first | assumption | omega | rfl | decide | simp only [fitsR, Bool.and_self]) [↓rules, rules, ↓rulesDp, rulesDq, lit_u64, Int.ofNat_inj, stops, q_int, q_bool, q_geo_Geo, q_S_state_Slot, q_S_thing_Thing, q_state_State, q_cap_Cap, q_state_Slot, q_S_int, q_api_Errno, q_uint64, q_A4_uint64, q_thing_Thing, w3, w4]
      exact ⟨A - (t + 1), by omega, t + 1, rfl, by omega, k4, kq4, by omega, v0, v1, by omega⟩
    · have : t = A := by omega
      subst this
      simp (maxSteps := 1000000) (disch := first | assumption | omega | rfl | decide | simp only [fitsR, Bool.and_self]) [↓rules, rules, ↓rulesDp, rulesDq, lit_u64, Int.ofNat_inj, stops, rc_reevelaw12_StateNewl0, q_int, q_bool, q_geo_Geo, q_S_state_Slot, q_S_thing_Thing, q_state_State, q_cap_Cap, q_state_Slot, q_S_int, q_api_Errno, q_uint64, q_A4_uint64, q_thing_Thing, hlt, u0, u1]
      refine dcall_spec kp.dom (state_Holders t B C _ _ _ _ 1 _ _ kp.dom hl1 hl2 hs5 ht5) (fun _ _ _ h => h.2) rfl (by simp (maxSteps := 1000000) (disch := first | assumption | omega | rfl | decide | simp only [fitsR, Bool.and_self]) [↓rules, rules, ↓rulesDp, rulesDq, lit_u64, Int.ofNat_inj]) fun r g4 n4 ⟨p4, q4⟩ => ?_
      rw [hgd, if_pos rfl] at p4
      have hlen := new_holders (A := t) (B := B) (by omega) (by omega)
      have hfr := new_free (A := t) (C := C) (r := room) (by omega)
      obtain ⟨ra, re, hrv⟩ := p4.rd.form
      rw [hlen] at hrv
      have k4 := kp.trans q4
      have kq4 := kq.trans q4
      have u0' : g4 n = some (.row [.int .i64 t, .int .i64 B, .int .i64 C] true) := by rw [q4.same _ (by omega)]; exact u0
      have u1' : g4 n1 = some (rowS t B C (.slice (some ⟨m, 0, none⟩) B 5) (.slice (some ⟨m + 1, 0, none⟩) C 13)) := by rw [q4.same _ (by omega)]; exact u1
      have hs6 := hs1.ext (kq4.ext k2.dom)
      have ht6 := ht1.ext (kq4.ext k2.dom)
      have w3 : IntKind.i64.wrap (2 + (t : Int)) = 2 + (t : Int) := wrap_i64 (by omega) (by omega)
      subst hrv
      simp (maxSteps := 1000000) (disch := first | assumption | omega | rfl | decide | simp only [fitsR, Bool.and_self]) [↓rules, rules, ↓rulesDp, rulesDq, lit_u64, Int.ofNat_inj, stops, q_int, q_bool, q_geo_Geo, q_S_state_Slot, q_S_thing_Thing, q_state_State, q_cap_Cap, q_state_Slot, q_S_int, q_api_Errno, q_uint64, q_A4_uint64, q_thing_Thing, u0', u1']
      refine dcall_quiet k4.dom rfl (state_Free t B C _ _ _ _ _ _ hl1 hl2 hs6 ht6) (by simp (maxSteps := 1000000) (disch := first | assumption | omega | rfl | decide | simp only [fitsR, Bool.and_self]) [↓rules, rules, ↓rulesDp, rulesDq, lit_u64, Int.ofNat_inj]) ?_
      rw [show freeV t B C (slF B t) (tgN C room t) = if 2 + t < C then ((2 + t : Nat) : Int) else -1 from (if_pos hgd).trans hfr]
      by_cases cC : 2 + t < C
      · rw [if_pos cC, show ((2 + t : Nat) : Int) = 2 + (t : Int) by omega]
        have cC' : 2 + (t : Int) < C := by omega
        simp (maxSteps := 1000000) (disch := first | assumption | omega | rfl | decide | simp only [fitsR, Bool.and_self]) [↓rules, rules, ↓rulesDp, rulesDq, lit_u64, Int.ofNat_inj, stops, q_int, q_bool, q_geo_Geo, q_S_state_Slot, q_S_thing_Thing, q_state_State, q_cap_Cap, q_state_Slot, q_S_int, q_api_Errno, q_uint64, q_A4_uint64, q_thing_Thing, u0', u1', w3, cC']
        exact done_q hdom k4 rfl rfl
      · rw [if_neg cC]
        have cC' : ¬ 2 + (t : Int) < C := by omega
        have cC2 : ¬ -1 = 2 + (t : Int) := by omega
        simp (maxSteps := 1000000) (disch := first | assumption | omega | rfl | decide | simp only [fitsR, Bool.and_self]) [↓rules, rules, ↓rulesDp, rulesDq, lit_u64, Int.ofNat_inj, stops, q_int, q_bool, q_geo_Geo, q_S_state_Slot, q_S_thing_Thing, q_state_State, q_cap_Cap, q_state_Slot, q_S_int, q_api_Errno, q_uint64, q_A4_uint64, q_thing_Thing, u0', u1', w3, cC', cC2]
        exact done_q hdom k4 rfl rfl
  · exact ⟨0, by simp, by simp, k3, q3, by omega, s3, s4, by rfl⟩
end Go.Proofs.Ytkcahnefekkfaaa.F12G

namespace Go.Proofs.Ytkcahnefekkfaaa.F12G
open Go Go.Proofs Go.Proofs.YtkcahnefekkfaaaAbs
variable [Base]
set_option maxRecDepth 100000
theorem decGeo {H : Type} {enc : TypeId × Value → H} {W : World} : ∀ c, Cells enc Try.prog W [.flat (.int .i64), .flat (.int .i64), .flat (.int .i64)] c →
    ∃ a b d : Int, VRel (idR W) (szOf W) (gv a b d) (.agg c.toArray) ∧ True := fun c h => by
  have hl := h.len
  simp only [List.length_cons, List.length_nil] at hl
  match c, hl, h with
  | [c0, c1, c2], _, h =>
    obtain ⟨x0, h0, _⟩ := LK.i64 (h.at_ 0 (by simp) (by simp))
    obtain ⟨x1, h1, _⟩ := LK.i64 (h.at_ 1 (by simp) (by simp))
    obtain ⟨x2, h2, _⟩ := LK.i64 (h.at_ 2 (by simp) (by simp))
    simp only [List.getElem_cons_zero, List.getElem_cons_succ] at h0 h1 h2
    subst h0 h1 h2
    exact ⟨x0, x1, x2, .agg' (VRs.cons' (.int _ _) (VRs.cons' (.int _ _) (VRs.cons' (.int _ _) (VRs.nil _ _)))), trivial⟩
end Go.Proofs.Ytkcahnefekkfaaa.F12G
