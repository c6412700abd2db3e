/- Contracts of functions: what each one returns, and what it leaves. No statement is proved here. -/
import Derived.Test.YtkcahnefekkfaaaF12S
set_option linter.unusedVariables false
set_option linter.unusedSimpArgs false
set_option linter.unusedSectionVars false
namespace Go.Proofs.Ytkcahnefekkfaaa.F12S
open Go Go.Proofs Go.Proofs.YtkcahnefekkfaaaAbs
variable [Base]
set_option maxRecDepth 100000
abbrev rdW (g : AMem) (v : Value) (ws : List (BitVec 64)) : Prop := Rd g 1 (fun w => [U w]) v ws
abbrev rdI (g : AMem) (v : Value) (xs : List Int) : Prop := Rd g 1 (fun x => [.int .i64 x]) v xs
end Go.Proofs.Ytkcahnefekkfaaa.F12S

namespace Go.Proofs.Ytkcahnefekkfaaa.F12S
open Go Go.Proofs Go.Proofs.YtkcahnefekkfaaaAbs
variable [Base]
set_option maxRecDepth 100000
/-- A slice that is read, as a row. -/
theorem rd_all {α : Type} {enc : α → List Value} {e : Nat} {g : AMem} {v : Value} {xs : List α} (h : Rd g e enc v xs) (h0 : 0 < xs.length) : ∃ b o cs r, v = .slice (some ⟨b, o, none⟩) xs.length e ∧ g b = some (.row cs r) ∧ o + xs.length * e ≤ cs.length ∧ xs.flatMap enc = (cs.drop o).take (xs.length * e) := aRead_row h h0
/-- Its elements. -/
theorem rd_elems {α : Type} {f : α → Value} {g : AMem} {v : Value} {xs : List α} (h : Rd g 1 (fun x => [f x]) v xs) (h0 : 0 < xs.length) :
    ∃ b o, v = .slice (some ⟨b, o, none⟩) xs.length 1 ∧ g b ≠ none ∧ ∀ (i : Nat) (hi : i < xs.length) (g2 : AMem), Ext g g2 → ∀ (P : Program) (t : TypeId), tagg P t = some false → aLoad P g2 t (.pointer (some ⟨b, o + i, none⟩)) = some (f xs[i]) := by
  obtain ⟨b, o, h1, h2, _⟩ := h.one h0
  refine ⟨b, o, h1, h2, fun i hi g2 hx P t ht => ?_⟩
  obtain ⟨b', o', h3, _, h4⟩ := h.one hi
  rw [h1] at h3
  simp only [Value.slice.injEq, Option.some.injEq, Addr.mk.injEq] at h3
  obtain ⟨⟨rfl, rfl, _⟩, _⟩ := h3
  exact h4 g2 hx P t ht
theorem rd_nths {α : Type} {f : α → Value} {g : AMem} {v : Value} {xs : List α} (h : Rd g 1 (fun x => [f x]) v xs) (h0 : 0 < xs.length) :
    ∃ b o cs r, v = .slice (some ⟨b, o, none⟩) xs.length 1 ∧ g b = some (.row cs r) ∧ ∀ (i : Nat) (hi : i < xs.length), nth cs (o + i) = some (f xs[i]) := by
  obtain ⟨b, o, cs, r, h1, h2, h3, h4⟩ := rd_all h h0
  refine ⟨b, o, cs, r, h1, h2, fun i hi => ?_⟩
  rw [flatMap_one, Nat.mul_one] at h4
  have : (xs.map f)[i]? = some (f xs[i]) := by simp [hi]
  rw [h4, List.getElem?_take, if_pos hi, List.getElem?_drop] at this
  rw [← nth_eq]; exact this
/-- A part of it. -/
theorem rd_part {α : Type} {enc : α → List Value} {e : Nat} (he : ∀ x, (enc x).length = e) {g : AMem} {b o n : Nat} {xs : List α} (h : Rd g e enc (.slice (some ⟨b, o, none⟩) n e) xs) (k m : Nat) (hm : k + m ≤ xs.length) : Rd g e enc (.slice (some ⟨b, o + k * e, none⟩) m e) ((xs.drop k).take m) := by
  have hn : n = xs.length := by
    obtain ⟨a, e', h1⟩ := h.form
    simp only [Value.slice.injEq] at h1
    exact h1.2.1
  have hl : ((xs.drop k).take m).length = m := by rw [List.length_take, List.length_drop]; omega
  by_cases h0 : m = 0
  · subst h0
    simp [Rd, aRead]
  obtain ⟨b', o', cs, r, h1, h2, h3, h4⟩ := rd_all h (by omega)
  simp only [Value.slice.injEq, Option.some.injEq, Addr.mk.injEq] at h1
  obtain ⟨⟨rfl, rfl, _⟩, _⟩ := h1
  have hke : k * e + m * e ≤ xs.length * e := by rw [← Nat.add_mul]; exact Nat.mul_le_mul_right _ hm
  refine Rd.of_row he h2 (by rw [hl]; omega) ?_ hl.symm
  rw [hl]
  have e1 : xs.flatMap enc = (xs.take k).flatMap enc ++ (((xs.drop k).take m).flatMap enc ++ ((xs.drop k).drop m).flatMap enc) := by
    rw [← List.flatMap_append, List.take_append_drop, ← List.flatMap_append, List.take_append_drop]
  have l1 : ((xs.take k).flatMap enc).length = k * e := by rw [flat_length he, List.length_take, Nat.min_eq_left (by omega)]
  have l2 : (((xs.drop k).take m).flatMap enc).length = m * e := by rw [flat_length he, hl]
  have e2 : ((xs.flatMap enc).drop (k * e)).take (m * e) = ((xs.drop k).take m).flatMap enc := by
    rw [e1, ← l1, List.drop_left, ← l2, List.take_left]
  rw [← e2, h4, List.drop_take, List.drop_drop, List.take_take, Nat.min_eq_left (by omega)]
theorem rd_read {α : Type} {enc : α → List Value} {e : Nat} {g : AMem} {v : Value} {xs : List α} (h : Rd g e enc v xs) : aRead g e v = some (xs.length, xs.flatMap enc) := h
set_option maxHeartbeats 2000000
end Go.Proofs.Ytkcahnefekkfaaa.F12S

namespace Go.Proofs.Ytkcahnefekkfaaa.F12S
open Go Go.Proofs Go.Proofs.YtkcahnefekkfaaaAbs
variable [Base]
set_option maxHeartbeats 8000000
set_option maxRecDepth 100000
/-! ### States: slots, things -/
structure Sl where
  ty : Int
  th : Int
  ri : Int
  ba : Int
  up : Int
deriving DecidableEq
structure Tg where
  ty : Int
  bits : Int
  base : Int
  size : Int
  used : Int
  frm : Int
  badge : Int
  full : Bool
  word : BitVec 64
  d0 : BitVec 64
  d1 : BitVec 64
  d2 : BitVec 64
  d3 : BitVec 64
deriving DecidableEq
def cS (x : Sl) : List Value := [.int .i64 x.ty, .int .i64 x.th, .int .i64 x.ri, .int .i64 x.ba, .int .i64 x.up]
def cG (t : Tg) : List Value := [.int .i64 t.ty, .int .i64 t.bits, .int .i64 t.base, .int .i64 t.size, .int .i64 t.used, .int .i64 t.frm, .int .i64 t.badge, .bool t.full, U t.word, U t.d0, U t.d1, U t.d2, U t.d3]
theorem cS_len (x : Sl) : (cS x).length = 5 := rfl
theorem cG_len (x : Tg) : (cG x).length = 13 := rfl
abbrev rdS (g : AMem) (v : Value) (xs : List Sl) : Prop := Rd g 5 cS v xs
abbrev rdG (g : AMem) (v : Value) (xs : List Tg) : Prop := Rd g 13 cG v xs
theorem eqS (x y : Sl) : cellsEq (cS x) (cS y) = decide (x = y) := by
  cases x; cases y
  simp only [cS, cellsEq_cons, cellsEq_nil, cellEq_int, Sl.mk.injEq, Bool.and_true, Bool.decide_and]
theorem eqG (x y : Tg) : cellsEq (cG x) (cG y) = decide (x = y) := by
  cases x; cases y
  simp only [cG, cellsEq_cons, cellsEq_nil, cellEq_int, cellEq_bool, cellEq_U, Tg.mk.injEq, Bool.and_true, Bool.decide_and]
theorem fitsS (x : Sl) : fitsB [.int .i64, .int .i64, .int .i64, .int .i64, .int .i64] (cS x) = true := rfl
theorem fitsG (x : Tg) : fitsB [.int .i64, .int .i64, .int .i64, .int .i64, .int .i64, .int .i64, .int .i64, .bool, .int .u64, .int .u64, .int .u64, .int .u64, .int .u64] (cG x) = true := rfl
/-- An element of many cells, loaded. -/
theorem rd_big {α : Type} {enc : α → List Value} {e : Nat} {g : AMem} {v : Value} {xs : List α} (h : Rd g e enc v xs) (he : ∀ x, (enc x).length = e) {i : Nat} (hi : i < xs.length) :
    ∃ b o, v = .slice (some ⟨b, o, none⟩) xs.length e ∧ g b ≠ none ∧ ∀ (g2 : AMem), Ext g g2 → ∀ (P : Program) (t : TypeId), tagg P t = some true → tsize P t = some e → aLoad P g2 t (.pointer (some ⟨b, o + i * e, none⟩)) = some (.agg (enc xs[i]).toArray) := by
  obtain ⟨b, o, cs, r, h1, h2, h3, h4, _⟩ := h.elem he hi
  exact ⟨b, o, h1, by rw [h2]; simp, fun g2 hx P t ht hs => load_elem (hx _ _ h2) ht hs h3 h4⟩
theorem slices_Equal_Sl (va vb : Value) (xs ys : List Sl) (g : AMem) (n : Nat) (hl : xs.length ≤ 100000) (hl' : ys.length ≤ 100000) (ha : rdS g va xs) (hb : rdS g vb ys) : FnC Try.prog f_slices_Equal_S_state_Slot_state_Slot [va, vb] g n (fun _ => False) (.bool (decide (xs = ys))) g n := by
  refine fnC_of_rwp t_slices_Equal_S_state_Slot_state_Slot hm rfl fun hdom => ?_
  obtain ⟨a, ea, hva⟩ := ha.form
  obtain ⟨b, eb, hvb⟩ := hb.form
  by_cases hne : xs.length = ys.length
  case neg =>
    have hne' : ¬ (xs.length : Int) = ys.length := by omega
    simp (maxSteps := 1000000) (disch := first | assumption | omega | rfl | decide | simp only [fitsR, Bool.and_self]) [↓rules, rules, ↓rulesDp, rulesDq, lit_u64, Int.ofNat_inj, stops, rc_slices_Equal_S_state_Slot_state_Slot, q_int, q_bool, q_S_state_Slot, q_cap_Cap, q_state_Slot, hva, hvb, hne, hne']
    refine done_q hdom (Kept.refl hdom) rfl ?_
    rw [show decide (xs = ys) = false by simp only [decide_eq_false_iff_not]; intro h; exact hne (by rw [h])]; rfl
  have hne' : (xs.length : Int) = ys.length := by omega
  simp (maxSteps := 1000000) (disch := first | assumption | omega | rfl | decide | simp only [fitsR, Bool.and_self]) [↓rules, rules, ↓rulesDp, rulesDq, lit_u64, Int.ofNat_inj, stops, rc_slices_Equal_S_state_Slot_state_Slot, q_int, q_bool, q_S_state_Slot, q_cap_Cap, q_state_Slot, hva, hvb, hne, hne']
  rw [← hvb, show Value.slice a ys.length ea = va by rw [hva, hne]]
  refine rwp_loop (fun k l g' n' => ∃ i, k = xs.length - i ∧ i ≤ xs.length ∧ g' = g ∧ n' = n ∧ xs.take i = ys.take i ∧ l = [(0, va), (1, vb), (12, .int .i64 ys.length), (13, .int .i64 i)]) ?_ (k := xs.length) ?_
  · rintro k l g' n' ⟨i, rfl, hi, rfl, rfl, he, rfl⟩
    by_cases hlt : (i : Int) < (ys.length : Int)
    · have hlt2 : i < ys.length := by omega
      have hlt1 : i < xs.length := by omega
      obtain ⟨b1, o1, h1, _, h2⟩ := rd_big ha cS_len hlt1
      obtain ⟨b2, o2, h3, _, h4⟩ := rd_big hb cS_len hlt2
      have e1 := h2 g' (Ext.refl _) Try.prog _ ta_state_Slot ts_state_Slot
      have e2 := h4 g' (Ext.refl _) Try.prog _ ta_state_Slot ts_state_Slot
      have hq := fun xo yo => bne_state_Slot xo yo _ _ (fitsS xs[i]) (fitsS ys[i])
      rw [eqS] at hq
      have w1 : IntKind.i64.wrap ((i : Int) + 1) = ((i + 1 : Nat) : Int) := by rw [wrap_i64 (by omega) (by omega)]; omega
      rw [hne] at h1
      have tk : ∀ (zs : List Sl) (h : i < zs.length), zs.take (i + 1) = zs.take i ++ [zs[i]] := fun zs h => by rw [List.take_add_one, List.getElem?_eq_getElem h]; rfl
      by_cases c : xs[i] = ys[i]
      · rw [decide_eq_true c] at hq
        simp (maxSteps := 1000000) (disch := first | assumption | omega | rfl | decide | simp only [fitsR, Bool.and_self]) [↓rules, rules, ↓rulesDp, rulesDq, lit_u64, Int.ofNat_inj, stops, rc_slices_Equal_S_state_Slot_state_Slotl0, q_int, q_bool, q_S_state_Slot, q_cap_Cap, q_state_Slot, h1, h3, hlt, e1, e2, hq, w1]
        refine ⟨xs.length - (i + 1), by omega, i + 1, rfl, by omega, by rw [tk xs hlt1, tk ys hlt2, he, c], by omega⟩
      · rw [decide_eq_false c] at hq
        simp (maxSteps := 1000000) (disch := first | assumption | omega | rfl | decide | simp only [fitsR, Bool.and_self]) [↓rules, rules, ↓rulesDp, rulesDq, lit_u64, Int.ofNat_inj, stops, rc_slices_Equal_S_state_Slot_state_Slotl0, q_int, q_bool, q_S_state_Slot, q_cap_Cap, q_state_Slot, h1, h3, hlt, e1, e2, hq]
        refine done_q hdom (Kept.refl hdom) rfl ?_
        rw [show decide (xs = ys) = false by simp only [decide_eq_false_iff_not]; intro h; subst h; exact c rfl]; rfl
    · have e1 : i = xs.length := by omega
      simp (maxSteps := 1000000) (disch := first | assumption | omega | rfl | decide | simp only [fitsR, Bool.and_self]) [↓rules, rules, ↓rulesDp, rulesDq, lit_u64, Int.ofNat_inj, stops, rc_slices_Equal_S_state_Slot_state_Slotl0, q_int, q_bool, q_S_state_Slot, q_cap_Cap, q_state_Slot, hlt]
      refine done_q hdom (Kept.refl hdom) rfl ?_
      have e2 : i = ys.length := by omega
      rw [e1, List.take_length, ← e1, e2, List.take_length] at he
      rw [show decide (xs = ys) = true by simpa using he]; rfl
  · exact ⟨0, by simp, by simp, rfl, rfl, by simp, by rfl⟩
theorem slices_Equal_Tg (va vb : Value) (xs ys : List Tg) (g : AMem) (n : Nat) (hl : xs.length ≤ 100000) (hl' : ys.length ≤ 100000) (ha : rdG g va xs) (hb : rdG g vb ys) : FnC Try.prog f_slices_Equal_S_thing_Thing_thing_Thing [va, vb] g n (fun _ => False) (.bool (decide (xs = ys))) g n := by
  refine fnC_of_rwp t_slices_Equal_S_thing_Thing_thing_Thing hm rfl fun hdom => ?_
  obtain ⟨a, ea, hva⟩ := ha.form
  obtain ⟨b, eb, hvb⟩ := hb.form
  by_cases hne : xs.length = ys.length
  case neg =>
    have hne' : ¬ (xs.length : Int) = ys.length := by omega
    simp (maxSteps := 1000000) (disch := first | assumption | omega | rfl | decide | simp only [fitsR, Bool.and_self]) [↓rules, rules, ↓rulesDp, rulesDq, lit_u64, Int.ofNat_inj, stops, rc_slices_Equal_S_thing_Thing_thing_Thing, q_int, q_bool, q_S_thing_Thing, q_uint64, q_A4_uint64, q_thing_Thing, hva, hvb, hne, hne']
    refine done_q hdom (Kept.refl hdom) rfl ?_
    rw [show decide (xs = ys) = false by simp only [decide_eq_false_iff_not]; intro h; exact hne (by rw [h])]; rfl
  have hne' : (xs.length : Int) = ys.length := by omega
  simp (maxSteps := 1000000) (disch := first | assumption | omega | rfl | decide | simp only [fitsR, Bool.and_self]) [↓rules, rules, ↓rulesDp, rulesDq, lit_u64, Int.ofNat_inj, stops, rc_slices_Equal_S_thing_Thing_thing_Thing, q_int, q_bool, q_S_thing_Thing, q_uint64, q_A4_uint64, q_thing_Thing, hva, hvb, hne, hne']
  rw [← hvb, show Value.slice a ys.length ea = va by rw [hva, hne]]
  refine rwp_loop (fun k l g' n' => ∃ i, k = xs.length - i ∧ i ≤ xs.length ∧ g' = g ∧ n' = n ∧ xs.take i = ys.take i ∧ l = [(0, va), (1, vb), (12, .int .i64 ys.length), (13, .int .i64 i)]) ?_ (k := xs.length) ?_
  · rintro k l g' n' ⟨i, rfl, hi, rfl, rfl, he, rfl⟩
    by_cases hlt : (i : Int) < (ys.length : Int)
    · have hlt2 : i < ys.length := by omega
      have hlt1 : i < xs.length := by omega
      obtain ⟨b1, o1, h1, _, h2⟩ := rd_big ha cG_len hlt1
      obtain ⟨b2, o2, h3, _, h4⟩ := rd_big hb cG_len hlt2
      have e1 := h2 g' (Ext.refl _) Try.prog _ ta_thing_Thing ts_thing_Thing
      have e2 := h4 g' (Ext.refl _) Try.prog _ ta_thing_Thing ts_thing_Thing
      have hq := fun xo yo => bne_thing_Thing xo yo _ _ (fitsG xs[i]) (fitsG ys[i])
      rw [eqG] at hq
      have w1 : IntKind.i64.wrap ((i : Int) + 1) = ((i + 1 : Nat) : Int) := by rw [wrap_i64 (by omega) (by omega)]; omega
      rw [hne] at h1
      have tk : ∀ (zs : List Tg) (h : i < zs.length), zs.take (i + 1) = zs.take i ++ [zs[i]] := fun zs h => by rw [List.take_add_one, List.getElem?_eq_getElem h]; rfl
      by_cases c : xs[i] = ys[i]
      · rw [decide_eq_true c] at hq
        simp (maxSteps := 1000000) (disch := first | assumption | omega | rfl | decide | simp only [fitsR, Bool.and_self]) [↓rules, rules, ↓rulesDp, rulesDq, lit_u64, Int.ofNat_inj, stops, rc_slices_Equal_S_thing_Thing_thing_Thingl0, q_int, q_bool, q_S_thing_Thing, q_uint64, q_A4_uint64, q_thing_Thing, h1, h3, hlt, e1, e2, hq, w1]
        refine ⟨xs.length - (i + 1), by omega, i + 1, rfl, by omega, by rw [tk xs hlt1, tk ys hlt2, he, c], by omega⟩
      · rw [decide_eq_false c] at hq
        simp (maxSteps := 1000000) (disch := first | assumption | omega | rfl | decide | simp only [fitsR, Bool.and_self]) [↓rules, rules, ↓rulesDp, rulesDq, lit_u64, Int.ofNat_inj, stops, rc_slices_Equal_S_thing_Thing_thing_Thingl0, q_int, q_bool, q_S_thing_Thing, q_uint64, q_A4_uint64, q_thing_Thing, h1, h3, hlt, e1, e2, hq]
        refine done_q hdom (Kept.refl hdom) rfl ?_
        rw [show decide (xs = ys) = false by simp only [decide_eq_false_iff_not]; intro h; subst h; exact c rfl]; rfl
    · have e1 : i = xs.length := by omega
      simp (maxSteps := 1000000) (disch := first | assumption | omega | rfl | decide | simp only [fitsR, Bool.and_self]) [↓rules, rules, ↓rulesDp, rulesDq, lit_u64, Int.ofNat_inj, stops, rc_slices_Equal_S_thing_Thing_thing_Thingl0, q_int, q_bool, q_S_thing_Thing, q_uint64, q_A4_uint64, q_thing_Thing, hlt]
      refine done_q hdom (Kept.refl hdom) rfl ?_
      have e2 : i = ys.length := by omega
      rw [e1, List.take_length, ← e1, e2, List.take_length] at he
      rw [show decide (xs = ys) = true by simpa using he]; rfl
  · exact ⟨0, by simp, by simp, rfl, rfl, by simp, by rfl⟩
/-- A state's numbers, its slots and things. -/
structure St where
  a : Int
  b : Int
  c : Int
  ss : List Sl
  ts : List Tg
deriving DecidableEq
def sameSt (s s' : St) : Bool := decide (s = s')
theorem sameSt_iff {s s' : St} : sameSt s s' = true ↔ s = s' := by simp [sameSt]
abbrev sv (a b c : Int) (VS VT : Value) : Value := .agg #[.int .i64 a, .int .i64 b, .int .i64 c, VS, VT]
theorem fits3 (a b c : Int) : fitsB [.int .i64, .int .i64, .int .i64] [.int .i64 a, .int .i64 b, .int .i64 c] = true := rfl
theorem state_Same (s s' : St) (VS VT VS' VT' : Value) (g : AMem) (n : Nat) (hdom : ∀ i, g i ≠ none → i < n) (h1 : s.ss.length ≤ 100000) (h2 : s.ts.length ≤ 100000) (h1' : s'.ss.length ≤ 100000) (h2' : s'.ts.length ≤ 100000)
    (hs : rdS g VS s.ss) (ht : rdG g VT s.ts) (hs' : rdS g VS' s'.ss) (ht' : rdG g VT' s'.ts) :
    FnC Try.prog f_state_Same [sv s.a s.b s.c VS VT, sv s'.a s'.b s'.c VS' VT'] g n (fun _ => False) (.bool (sameSt s s')) g n := by
  refine fnC_of_rwp t_state_Same hm rfl fun hdom => ?_
  obtain ⟨a, b, c, ss, ts⟩ := s
  obtain ⟨a', b', c', ss', ts'⟩ := s'
  have k1 : Kept g n (gset (gset g n (some (.row [.int .i64 a, .int .i64 b, .int .i64 c, VS, VT] true))) (n + 1) (some (.row [.int .i64 a', .int .i64 b', .int .i64 c', VS', VT'] true))) (n + 1 + 1) := (by repeat first | exact Kept.refl hdom | refine Kept.new ?_ _ | refine Kept.drop ?_ (by omega) | refine Kept.put ?_ (by omega) (by omega) _ | refine Kept.skip ?_)
  have hq := fun xo yo => beq_geo_Geo xo yo _ _ (fits3 a b c) (fits3 a' b' c')
  have hce : cellsEq [.int .i64 a, .int .i64 b, .int .i64 c] [.int .i64 a', .int .i64 b', .int .i64 c'] = decide (a = a' ∧ b = b' ∧ c = c') := by
    simp only [cellsEq_cons, cellsEq_nil, cellEq_int, Bool.and_true, Bool.decide_and]
  rw [hce] at hq
  obtain ⟨xa, xe, hVS⟩ := hs.form
  obtain ⟨ya, ye, hVT⟩ := ht.form
  obtain ⟨xa', xe', hVS'⟩ := hs'.form
  obtain ⟨ya', ye', hVT'⟩ := ht'.form
  have hG0 : gset (gset g n (some (.row [.int .i64 a, .int .i64 b, .int .i64 c, VS, VT] true))) (n + 1) (some (.row [.int .i64 a', .int .i64 b', .int .i64 c', VS', VT'] true)) n = some (.row [.int .i64 a, .int .i64 b, .int .i64 c, VS, VT] true) := by simp [gset]
  have hG1 : gset (gset g n (some (.row [.int .i64 a, .int .i64 b, .int .i64 c, VS, VT] true))) (n + 1) (some (.row [.int .i64 a', .int .i64 b', .int .i64 c', VS', VT'] true)) (n + 1) = some (.row [.int .i64 a', .int .i64 b', .int .i64 c', VS', VT'] true) := by simp [gset]
  by_cases ce : a = a' ∧ b = b' ∧ c = c'
  case neg =>
    rw [decide_eq_false ce] at hq
    simp (maxSteps := 1000000) (disch := first | assumption | omega | rfl | decide | simp only [fitsR, Bool.and_self]) [↓rules, rules, ↓rulesDp, rulesDq, lit_u64, Int.ofNat_inj, stops, rc_state_Same, q_int, q_bool, q_geo_Geo, q_S_state_Slot, q_S_thing_Thing, q_state_State, q_cap_Cap, q_state_Slot, q_uint64, q_A4_uint64, q_thing_Thing, hq]
    refine done_q hdom k1 rfl ?_
    rw [show sameSt (⟨a, b, c, ss, ts⟩ : St) ⟨a', b', c', ss', ts'⟩ = false by simp only [sameSt, decide_eq_false_iff_not, St.mk.injEq]; intro h; exact ce ⟨h.1, h.2.1, h.2.2.1⟩]; rfl
  rw [decide_eq_true ce] at hq
  simp (maxSteps := 1000000) (disch := first | assumption | omega | rfl | decide | simp only [fitsR, Bool.and_self]) [↓rules, rules, ↓rulesDp, rulesDq, lit_u64, Int.ofNat_inj, stops, rc_state_Same, q_int, q_bool, q_geo_Geo, q_S_state_Slot, q_S_thing_Thing, q_state_State, q_cap_Cap, q_state_Slot, q_uint64, q_A4_uint64, q_thing_Thing, hq]
  refine rcall_quiet rfl (slices_Equal_Sl VS VS' ss ss' _ _ h1 h1' (hs.ext (k1.ext hdom)) (hs'.ext (k1.ext hdom))) ?_
  by_cases cs : ss = ss'
  case neg =>
    rw [decide_eq_false cs]
    simp (maxSteps := 1000000) (disch := first | assumption | omega | rfl | decide | simp only [fitsR, Bool.and_self]) [↓rules, rules, ↓rulesDp, rulesDq, lit_u64, Int.ofNat_inj, stops, q_int, q_bool, q_geo_Geo, q_S_state_Slot, q_S_thing_Thing, q_state_State, q_cap_Cap, q_state_Slot, q_uint64, q_A4_uint64, q_thing_Thing]
    refine done_q hdom k1 rfl ?_
    rw [show sameSt (⟨a, b, c, ss, ts⟩ : St) ⟨a', b', c', ss', ts'⟩ = false by simp only [sameSt, decide_eq_false_iff_not, St.mk.injEq]; intro h; exact cs h.2.2.2.1]; rfl
  rw [decide_eq_true cs]
  simp (maxSteps := 1000000) (disch := first | assumption | omega | rfl | decide | simp only [fitsR, Bool.and_self]) [↓rules, rules, ↓rulesDp, rulesDq, lit_u64, Int.ofNat_inj, stops, q_int, q_bool, q_geo_Geo, q_S_state_Slot, q_S_thing_Thing, q_state_State, q_cap_Cap, q_state_Slot, q_uint64, q_A4_uint64, q_thing_Thing]
  refine rcall_quiet rfl (slices_Equal_Tg VT VT' ts ts' _ _ h2 h2' (ht.ext (k1.ext hdom)) (ht'.ext (k1.ext hdom))) ?_
  simp (maxSteps := 1000000) (disch := first | assumption | omega | rfl | decide | simp only [fitsR, Bool.and_self]) [↓rules, rules, ↓rulesDp, rulesDq, lit_u64, Int.ofNat_inj, stops, q_int, q_bool, q_geo_Geo, q_S_state_Slot, q_S_thing_Thing, q_state_State, q_cap_Cap, q_state_Slot, q_uint64, q_A4_uint64, q_thing_Thing]
  refine done_q hdom k1 rfl ?_
  rw [show sameSt (⟨a, b, c, ss, ts⟩ : St) ⟨a', b', c', ss', ts'⟩ = decide (ts = ts') by
    rw [sameSt, decide_eq_decide, St.mk.injEq]
    exact ⟨fun h => h.2.2.2.2, fun h => ⟨ce.1, ce.2.1, ce.2.2, cs, h⟩⟩]
  rfl
end Go.Proofs.Ytkcahnefekkfaaa.F12S

namespace Go.Proofs.Ytkcahnefekkfaaa.F12S
open Go Go.Proofs Go.Proofs.YtkcahnefekkfaaaAbs
variable [Base]
set_option maxHeartbeats 8000000
set_option maxRecDepth 100000
/-! ### Slices of many cells, made from some block on -/
def Gb {α : Type} (e : Nat) (enc : α → List Value) (n : Nat) (g : AMem) (v : Value) (xs : List α) : Prop := (v = .slice none 0 0 ∧ xs = []) ∨ ∃ b, n ≤ b ∧ v = .slice (some ⟨b, 0, none⟩) xs.length e ∧ g b = some (.row (xs.flatMap enc) true)
theorem Gb_rd {α : Type} {e : Nat} {enc : α → List Value} (he : ∀ x, (enc x).length = e) {n : Nat} {g : AMem} {v : Value} {xs : List α} (h : Gb e enc n g v xs) : Rd g e enc v xs := by
  rcases h with ⟨rfl, rfl⟩ | ⟨b, _, rfl, h2⟩
  · rfl
  · by_cases h0 : xs.length = 0
    · have : xs = [] := List.length_eq_zero_iff.1 h0
      subst this; rfl
    · refine Rd.of_row he h2 (by rw [flat_length he]; omega) ?_ rfl
      rw [List.drop_zero, List.take_of_length_le (by rw [flat_length he]; omega)]
theorem Gb_le {α : Type} {e : Nat} {enc : α → List Value} {m n : Nat} {g : AMem} {v : Value} {xs : List α} (h : Gb e enc m g v xs) (hn : n ≤ m) : Gb e enc n g v xs := h.imp id fun ⟨b, hb, h1, h2⟩ => ⟨b, by omega, h1, h2⟩
theorem Gb_new {α : Type} {e : Nat} {enc : α → List Value} {n m : Nat} {g : AMem} {v : Value} {xs : List α} (o : Option AObj) (h : Gb e enc n g v xs) (hd : ∀ i, g i ≠ none → i < m) : Gb e enc n (gset g m o) v xs := by
  rcases h with h | ⟨b, hb, h1, h2⟩
  · exact Or.inl h
  · have := hd b (by rw [h2]; simp)
    exact Or.inr ⟨b, hb, h1, by rw [gset, if_neg (by omega)]; exact h2⟩
theorem Gb_put {α : Type} {e : Nat} {enc : α → List Value} {m n x : Nat} {g : AMem} {v : Value} {xs : List α} (o : Option AObj) (h : Gb e enc m g v xs) (hx : x < m) (hn : n ≤ m) : Gb e enc n (gset g x o) v xs := by
  rcases h with h | ⟨b, hb, h1, h2⟩
  · exact Or.inl h
  · exact Or.inr ⟨b, by omega, h1, by rw [gset, if_neg (by omega)]; exact h2⟩
theorem Gb_kept {α : Type} {e : Nat} {enc : α → List Value} {n m : Nat} {g g' : AMem} {n' : Nat} {v : Value} {xs : List α} (h : Gb e enc n g v xs) (hd : ∀ i, g i ≠ none → i < m) (hk : Kept g m g' n') : Gb e enc n g' v xs := by
  rcases h with h | ⟨b, hb, h1, h2⟩
  · exact Or.inl h
  · have := hd b (by rw [h2]; simp)
    exact Or.inr ⟨b, hb, h1, by rw [hk.same b this]; exact h2⟩
theorem rd_cases {α : Type} {e : Nat} {enc : α → List Value} {g : AMem} {v : Value} {xs : List α} (h : Rd g e enc v xs) : v = .slice none 0 0 ∧ xs = [] ∨ ∃ b e', v = .slice (some b) xs.length e' := by
  obtain ⟨a, e', rfl⟩ := h.form
  cases a with
  | some b => exact Or.inr ⟨b, e', rfl⟩
  | none =>
    left
    have h : aRead g e (.slice none xs.length e') = some (xs.length, xs.flatMap enc) := h
    unfold aRead at h
    split at h
    · rename_i h1
      simp only [Value.slice.injEq] at h1
      obtain ⟨_, h2, h3⟩ := h1
      have : xs = [] := List.length_eq_zero_iff.1 h2
      subst this; subst h3
      exact ⟨rfl, rfl⟩
    · rename_i h1; cases h1
    · cases h
theorem okS (xs : List Sl) : (xs.flatMap cS).all cellOk = true := by
  rw [List.all_eq_true]
  intro v hv
  obtain ⟨x, _, hx⟩ := List.mem_flatMap.1 hv
  simp only [cS, List.mem_cons, List.not_mem_nil, or_false] at hx
  rcases hx with rfl | rfl | rfl | rfl | rfl <;> rfl
theorem okG (xs : List Tg) : (xs.flatMap cG).all cellOk = true := by
  rw [List.all_eq_true]
  intro v hv
  obtain ⟨x, _, hx⟩ := List.mem_flatMap.1 hv
  simp only [cG, List.mem_cons, List.not_mem_nil, or_false] at hx
  rcases hx with rfl | rfl | rfl | rfl | rfl | rfl | rfl | rfl | rfl | rfl | rfl | rfl | rfl <;> rfl
theorem slices_Clone_S_state_Slot_state_Slot_C (va : Value) (u : List Sl) (g : AMem) (n : Nat) (hdom : ∀ i, g i ≠ none → i < n) (hl : u.length ≤ 100000) (ha : Rd g 5 cS va u) :
    FnS Try.prog f_slices_Clone_S_state_Slot_state_Slot [va] g n (fun _ => False) fun v g' n' => Gb 5 cS n g' v u ∧ Kept g n g' n' := by
  refine fnS_of_rwp t_slices_Clone_S_state_Slot_state_Slot hm rfl hdom ?_
  rcases rd_cases ha with ⟨rfl, rfl⟩ | ⟨b, e, hva⟩
  · simp (maxSteps := 1000000) (disch := first | assumption | omega | rfl | decide | simp only [fitsR, Bool.and_self]) [↓rules, rules, ↓rulesDp, rulesDq, lit_u64, Int.ofNat_inj, stops, rc_slices_Clone_S_state_Slot_state_Slot, q_int, q_bool, q_S_state_Slot, q_cap_Cap, q_state_Slot, bin_eql_nils tu_S_state_Slot]
    exact sdone_ret rfl ⟨Or.inl ⟨rfl, rfl⟩, Kept.refl hdom⟩
  have k1 := (Kept.refl hdom).new (.row [] true)
  have hread : aRead _ 5 va = some (u.length, u.flatMap cS) := ha.ext (k1.ext hdom)
  have hck := okS u
  have hfl := flat_length cS_len u
  rw [hva] at hread
  by_cases h0 : u.length = 0
  · have : u = [] := List.length_eq_zero_iff.1 h0
    subst this
    rw [show ([] : List Sl).length = 0 from rfl] at hread hva
    simp (maxSteps := 1000000) (disch := first | assumption | omega | rfl | decide | simp only [fitsR, Bool.and_self]) [↓rules, rules, ↓rulesDp, rulesDq, lit_u64, Int.ofNat_inj, stops, rc_slices_Clone_S_state_Slot_state_Slot, q_int, q_bool, q_S_state_Slot, q_cap_Cap, q_state_Slot, hva, bin_eql_slice tu_S_state_Slot, hread, zeroRow_zero]
    exact sdone_ret rfl ⟨Or.inr ⟨n, Nat.le_refl _, rfl, by simp [gset]⟩, k1⟩
  · have hsz : u.length * 40 ≤ 70368744177664 := by omega
    have hsz2 : u.length ≤ 70368744177664 := by omega
    generalize hcs : u.flatMap cS = cs at *
    simp (maxSteps := 1000000) (disch := first | assumption | omega | rfl | decide | simp only [fitsR, Bool.and_self]) [↓rules, rules, ↓rulesDp, rulesDq, lit_u64, Int.ofNat_inj, stops, rc_slices_Clone_S_state_Slot_state_Slot, q_int, q_bool, q_S_state_Slot, q_cap_Cap, q_state_Slot, hva, hread, hck, h0, hsz, hsz2, bin_eql_slice tu_S_state_Slot, zeroRow_zero]
    exact sdone_ret rfl ⟨Or.inr ⟨n + 1, by omega, rfl, by simp [gset, hcs]⟩, (by repeat first | exact Kept.refl hdom | refine Kept.new ?_ _ | refine Kept.drop ?_ (by omega) | refine Kept.put ?_ (by omega) (by omega) _ | refine Kept.skip ?_)⟩
theorem slices_Clone_S_thing_Thing_thing_Thing_C (va : Value) (u : List Tg) (g : AMem) (n : Nat) (hdom : ∀ i, g i ≠ none → i < n) (hl : u.length ≤ 100000) (ha : Rd g 13 cG va u) :
    FnS Try.prog f_slices_Clone_S_thing_Thing_thing_Thing [va] g n (fun _ => False) fun v g' n' => Gb 13 cG n g' v u ∧ Kept g n g' n' := by
  refine fnS_of_rwp t_slices_Clone_S_thing_Thing_thing_Thing hm rfl hdom ?_
  rcases rd_cases ha with ⟨rfl, rfl⟩ | ⟨b, e, hva⟩
  · simp (maxSteps := 1000000) (disch := first | assumption | omega | rfl | decide | simp only [fitsR, Bool.and_self]) [↓rules, rules, ↓rulesDp, rulesDq, lit_u64, Int.ofNat_inj, stops, rc_slices_Clone_S_thing_Thing_thing_Thing, q_int, q_bool, q_S_thing_Thing, q_uint64, q_A4_uint64, q_thing_Thing, bin_eql_nils tu_S_thing_Thing]
    exact sdone_ret rfl ⟨Or.inl ⟨rfl, rfl⟩, Kept.refl hdom⟩
  have k1 := (Kept.refl hdom).new (.row [] true)
  have hread : aRead _ 13 va = some (u.length, u.flatMap cG) := ha.ext (k1.ext hdom)
  have hck := okG u
  have hfl := flat_length cG_len u
  rw [hva] at hread
  by_cases h0 : u.length = 0
  · have : u = [] := List.length_eq_zero_iff.1 h0
    subst this
    rw [show ([] : List Tg).length = 0 from rfl] at hread hva
    simp (maxSteps := 1000000) (disch := first | assumption | omega | rfl | decide | simp only [fitsR, Bool.and_self]) [↓rules, rules, ↓rulesDp, rulesDq, lit_u64, Int.ofNat_inj, stops, rc_slices_Clone_S_thing_Thing_thing_Thing, q_int, q_bool, q_S_thing_Thing, q_uint64, q_A4_uint64, q_thing_Thing, hva, bin_eql_slice tu_S_thing_Thing, hread, zeroRow_zero]
    exact sdone_ret rfl ⟨Or.inr ⟨n, Nat.le_refl _, rfl, by simp [gset]⟩, k1⟩
  · have hsz : u.length * 104 ≤ 70368744177664 := by omega
    have hsz2 : u.length ≤ 70368744177664 := by omega
    generalize hcs : u.flatMap cG = cs at *
    simp (maxSteps := 1000000) (disch := first | assumption | omega | rfl | decide | simp only [fitsR, Bool.and_self]) [↓rules, rules, ↓rulesDp, rulesDq, lit_u64, Int.ofNat_inj, stops, rc_slices_Clone_S_thing_Thing_thing_Thing, q_int, q_bool, q_S_thing_Thing, q_uint64, q_A4_uint64, q_thing_Thing, hva, hread, hck, h0, hsz, hsz2, bin_eql_slice tu_S_thing_Thing, zeroRow_zero]
    exact sdone_ret rfl ⟨Or.inr ⟨n + 1, by omega, rfl, by simp [gset, hcs]⟩, (by repeat first | exact Kept.refl hdom | refine Kept.new ?_ _ | refine Kept.drop ?_ (by omega) | refine Kept.put ?_ (by omega) (by omega) _ | refine Kept.skip ?_)⟩
end Go.Proofs.Ytkcahnefekkfaaa.F12S

namespace Go.Proofs.Ytkcahnefekkfaaa.F12S
open Go Go.Proofs Go.Proofs.YtkcahnefekkfaaaAbs
variable [Base]
set_option maxHeartbeats 8000000
set_option maxRecDepth 100000
def hvy (ss : List Sl) (ts : List Tg) : Bool := decide (100 < ss.length) || decide (50 < ts.length)
theorem law_heavy (a b c : Int) (VS VT : Value) (ss : List Sl) (ts : List Tg) (g : AMem) (n : Nat) (hs : rdS g VS ss) (ht : rdG g VT ts) : FnC Try.prog f_reevelaw12_heavy [sv a b c VS VT] g n (fun _ => False) (.bool (hvy ss ts)) g n := by
  refine fnC_of_rwp t_reevelaw12_heavy hm rfl fun hdom => ?_
  obtain ⟨xa, xe, hVS⟩ := hs.form
  obtain ⟨ya, ye, hVT⟩ := ht.form
  have k1 : Kept g n (gset g n (some (.row [.int .i64 a, .int .i64 b, .int .i64 c, VS, VT] true))) (n + 1) := (by repeat first | exact Kept.refl hdom | refine Kept.new ?_ _ | refine Kept.drop ?_ (by omega) | refine Kept.put ?_ (by omega) (by omega) _ | refine Kept.skip ?_)
  by_cases c1 : (100 : Int) < ss.length
  · rw [show hvy ss ts = true by unfold hvy; rw [decide_eq_true (show 100 < ss.length by omega), Bool.true_or]]
    simp (maxSteps := 1000000) (disch := first | assumption | omega | rfl | decide | simp only [fitsR, Bool.and_self]) [↓rules, rules, ↓rulesDp, rulesDq, lit_u64, Int.ofNat_inj, stops, rc_reevelaw12_heavy, q_int, q_bool, q_geo_Geo, q_S_state_Slot, q_S_thing_Thing, q_state_State, q_cap_Cap, q_state_Slot, q_uint64, q_A4_uint64, q_thing_Thing, hVS, c1]
    exact done_q hdom (hVS ▸ k1) rfl rfl
  · rw [show hvy ss ts = decide (50 < ts.length) by unfold hvy; rw [decide_eq_false (show ¬ 100 < ss.length by omega), Bool.false_or]]
    by_cases c2 : (50 : Int) < ts.length
    · rw [decide_eq_true (show 50 < ts.length by omega)]
      simp (maxSteps := 1000000) (disch := first | assumption | omega | rfl | decide | simp only [fitsR, Bool.and_self]) [↓rules, rules, ↓rulesDp, rulesDq, lit_u64, Int.ofNat_inj, stops, rc_reevelaw12_heavy, q_int, q_bool, q_geo_Geo, q_S_state_Slot, q_S_thing_Thing, q_state_State, q_cap_Cap, q_state_Slot, q_uint64, q_A4_uint64, q_thing_Thing, hVS, hVT, c1, c2]
      exact done_q hdom (hVS ▸ hVT ▸ k1) rfl rfl
    · rw [decide_eq_false (show ¬ 50 < ts.length by omega)]
      simp (maxSteps := 1000000) (disch := first | assumption | omega | rfl | decide | simp only [fitsR, Bool.and_self]) [↓rules, rules, ↓rulesDp, rulesDq, lit_u64, Int.ofNat_inj, stops, rc_reevelaw12_heavy, q_int, q_bool, q_geo_Geo, q_S_state_Slot, q_S_thing_Thing, q_state_State, q_cap_Cap, q_state_Slot, q_uint64, q_A4_uint64, q_thing_Thing, hVS, hVT, c1, c2]
      exact done_q hdom (hVS ▸ hVT ▸ k1) rfl rfl
theorem law_thingOf (t : Tg) (g : AMem) (n : Nat) : FnC Try.prog f_reevelaw12_thingOf [.agg (cG t).toArray] g n (fun _ => False) (.agg (cG t).toArray) g n := by
  refine fnC_of_rwp t_reevelaw12_thingOf hm rfl fun hdom => ?_
  obtain ⟨ty, bits, base, size, used, frm, badge, full, word, d0, d1, d2, d3⟩ := t
  simp only [cG]
  simp (maxSteps := 1000000) (disch := first | assumption | omega | rfl | decide | simp only [fitsR, Bool.and_self]) [↓rules, rules, ↓rulesDp, rulesDq, lit_u64, Int.ofNat_inj, stops, rc_reevelaw12_thingOf, q_int, q_bool, q_uint64, q_A4_uint64, q_thing_Thing, q_reeveref11_Thing, do_buildS tz_reeveref11_Thing tp_reeveref11_Thing]
  refine done_q hdom (by repeat first | exact Kept.refl hdom | refine Kept.new ?_ _ | refine Kept.drop ?_ (by omega) | refine Kept.put ?_ (by omega) (by omega) _ | refine Kept.skip ?_) rfl ?_
  simp (maxSteps := 1000000) (disch := first | assumption | omega | rfl | decide | simp only [fitsR, Bool.and_self]) [↓rules, rules, ↓rulesDp, rulesDq, lit_u64, Int.ofNat_inj, stops, aResults, aRes, q_int, q_bool, q_uint64, q_A4_uint64, q_thing_Thing, q_reeveref11_Thing]
theorem state_Clone (a b c : Int) (VS VT : Value) (ss : List Sl) (ts : List Tg) (g : AMem) (n : Nat) (hdom : ∀ i, g i ≠ none → i < n) (h1 : ss.length ≤ 100000) (h2 : ts.length ≤ 100000) (hs : rdS g VS ss) (ht : rdG g VT ts) :
    FnS Try.prog f_state_Clone [sv a b c VS VT] g n (fun _ => False) fun v g' n' => ∃ WS WT m, v = sv a b c WS WT ∧ (Gb 5 cS n g' WS ss ∧ Gb 13 cG m g' WT ts ∧ n ≤ m ∧ ∀ b o l e, WS = .slice (some ⟨b, o, none⟩) l e → b < m) ∧ Kept g n g' n' := by
  refine fnS_of_rwp t_state_Clone hm rfl hdom ?_
  have k1 := ((Kept.refl hdom).new (.row [.int .i64 a, .int .i64 b, .int .i64 c, VS, VT] true)).new (.row [.int .i64 0, .int .i64 0, .int .i64 0, .slice none 0 0, .slice none 0 0] true)
  simp (maxSteps := 1000000) (disch := first | assumption | omega | rfl | decide | simp only [fitsR, Bool.and_self]) [↓rules, rules, ↓rulesDp, rulesDq, lit_u64, Int.ofNat_inj, stops, rc_state_Clone, q_int, q_bool, q_geo_Geo, q_S_state_Slot, q_S_thing_Thing, q_state_State, q_cap_Cap, q_state_Slot, q_uint64, q_A4_uint64, q_thing_Thing]
  have hG0 : gset (gset g n (some (.row [.int .i64 a, .int .i64 b, .int .i64 c, VS, VT] true))) (n + 1) (some (.row [.int .i64 0, .int .i64 0, .int .i64 0, .slice none 0 0, .slice none 0 0] true)) n = some (.row [.int .i64 a, .int .i64 b, .int .i64 c, VS, VT] true) := by simp [gset]
  have hG1 : gset (gset g n (some (.row [.int .i64 a, .int .i64 b, .int .i64 c, VS, VT] true))) (n + 1) (some (.row [.int .i64 0, .int .i64 0, .int .i64 0, .slice none 0 0, .slice none 0 0] true)) (n + 1) = some (.row [.int .i64 0, .int .i64 0, .int .i64 0, .slice none 0 0, .slice none 0 0] true) := by simp [gset]
  generalize hG : gset (gset g n (some (.row [.int .i64 a, .int .i64 b, .int .i64 c, VS, VT] true))) (n + 1) (some (.row [.int .i64 0, .int .i64 0, .int .i64 0, .slice none 0 0, .slice none 0 0] true)) = G at *
  refine dcall_spec k1.dom (slices_Clone_S_state_Slot_state_Slot_C VS ss _ _ k1.dom h1 (hs.ext (k1.ext hdom))) (fun _ _ _ h => h.2) rfl (by simp (maxSteps := 1000000) (disch := first | assumption | omega | rfl | decide | simp only [fitsR, Bool.and_self]) [↓rules, rules, ↓rulesDp, rulesDq, lit_u64, Int.ofNat_inj]) fun WS g1 n1 ⟨r1, q1⟩ => ?_
  have k2 := k1.trans q1
  have l1 := q1.le
  have hg0 : g1 n = some (.row [.int .i64 a, .int .i64 b, .int .i64 c, VS, VT] true) := by rw [q1.same _ (by omega)]; exact hG0
  have hg1 : g1 (n + 1) = some (.row [.int .i64 0, .int .i64 0, .int .i64 0, .slice none 0 0, .slice none 0 0] true) := by rw [q1.same _ (by omega)]; exact hG1
  simp (maxSteps := 1000000) (disch := first | assumption | omega | rfl | decide | simp only [fitsR, Bool.and_self]) [↓rules, rules, ↓rulesDp, rulesDq, lit_u64, Int.ofNat_inj, stops, q_int, q_bool, q_geo_Geo, q_S_state_Slot, q_S_thing_Thing, q_state_State, q_cap_Cap, q_state_Slot, q_uint64, q_A4_uint64, q_thing_Thing, hg0]
  refine dcall_spec k2.dom (slices_Clone_S_thing_Thing_thing_Thing_C VT ts _ _ k2.dom h2 (ht.ext (k2.ext hdom))) (fun _ _ _ h => h.2) rfl (by simp (maxSteps := 1000000) (disch := first | assumption | omega | rfl | decide | simp only [fitsR, Bool.and_self]) [↓rules, rules, ↓rulesDp, rulesDq, lit_u64, Int.ofNat_inj]) fun WT g2 n2 ⟨r2, q2⟩ => ?_
  have k3 := k2.trans q2
  have l2 := q2.le
  have hh1 : g2 (n + 1) = some (.row [.int .i64 0, .int .i64 0, .int .i64 0, .slice none 0 0, .slice none 0 0] true) := by rw [q2.same _ (by omega)]; exact hg1
  have r1' := Gb_kept r1 q1.dom q2
  obtain ⟨xa, xe, hWS⟩ := (Gb_rd cS_len r1').form
  obtain ⟨ya, ye, hWT⟩ := (Gb_rd cG_len r2).form
  have ap : ∀ b o l e, WS = .slice (some ⟨b, o, none⟩) l e → b < n1 := fun b o l e h => by
    rcases r1 with ⟨h0, _⟩ | ⟨bS, _, h0, h2⟩
    · rw [h0] at h; cases h
    · rw [h0] at h
      have := k2.dom bS (by rw [h2]; simp)
      cases h; exact this
  simp (maxSteps := 1000000) (disch := first | assumption | omega | rfl | decide | simp only [fitsR, Bool.and_self]) [↓rules, rules, ↓rulesDp, rulesDq, lit_u64, Int.ofNat_inj, stops, q_int, q_bool, q_geo_Geo, q_S_state_Slot, q_S_thing_Thing, q_state_State, q_cap_Cap, q_state_Slot, q_uint64, q_A4_uint64, q_thing_Thing, hh1, hWS, hWT]
  rw [← hWS, ← hWT]
  refine sdone_ret (v := sv a b c WS WT) (by simp (maxSteps := 1000000) (disch := first | assumption | omega | rfl | decide | simp only [fitsR, Bool.and_self]) [↓rules, rules, ↓rulesDp, rulesDq, lit_u64, Int.ofNat_inj, stops, aResults, aRes, q_int, q_bool, q_geo_Geo, q_S_state_Slot, q_S_thing_Thing, q_state_State, q_cap_Cap, q_state_Slot, q_uint64, q_A4_uint64, q_thing_Thing]) ⟨_, _, rfl, ⟨Gb_put _ r1' (by omega) (by omega), n1, Gb_put _ r2 (by omega) (Nat.le_refl _), by omega, ap⟩, k3.put (by omega) (by omega) _⟩
end Go.Proofs.Ytkcahnefekkfaaa.F12S

namespace Go.Proofs.Ytkcahnefekkfaaa.F12S
open Go Go.Proofs Go.Proofs.YtkcahnefekkfaaaAbs
variable [Base]
set_option maxHeartbeats 8000000
set_option maxRecDepth 100000
theorem tk_snoc {α : Type} (zs : List α) (i : Nat) (h : i < zs.length) : zs.take (i + 1) = zs.take i ++ [zs[i]] := by rw [List.take_add_one, List.getElem?_eq_getElem h]; rfl
abbrev rowS (a b c : Int) (VS VT : Value) : AObj := .row [.int .i64 a, .int .i64 b, .int .i64 c, VS, VT] true
theorem ref_Same (s s' : St) (VS VT VS' VT' : Value) (g : AMem) (n : Nat) (hdom : ∀ i, g i ≠ none → i < n) (h1 : s.ss.length ≤ 100000) (h2 : s.ts.length ≤ 100000) (h1' : s'.ss.length ≤ 100000) (h2' : s'.ts.length ≤ 100000)
    (hs : rdS g VS s.ss) (ht : rdG g VT s.ts) (hs' : rdS g VS' s'.ss) (ht' : rdG g VT' s'.ts) :
    FnC Try.prog f_reeveref11_Same [sv s.a s.b s.c VS VT, sv s'.a s'.b s'.c VS' VT'] g n (fun _ => False) (.bool (sameSt s s')) g n := by
  refine fnC_of_rwp t_reeveref11_Same hm rfl fun hdom => ?_
  obtain ⟨a, b, c, ss, ts⟩ := s
  obtain ⟨a', b', c', ss', ts'⟩ := s'
  dsimp only at *
  have k1 : Kept g n (gset (gset g n (some (rowS a b c VS VT))) (n + 1) (some (rowS a' b' c' VS' VT'))) (n + 1 + 1) := (by repeat first | exact Kept.refl hdom | refine Kept.new ?_ _ | refine Kept.drop ?_ (by omega) | refine Kept.put ?_ (by omega) (by omega) _ | refine Kept.skip ?_)
  have hq := fun xo yo => bne_reeveref1_Geo xo yo _ _ (fits3 a b c) (fits3 a' b' c')
  have hce : cellsEq [.int .i64 a, .int .i64 b, .int .i64 c] [.int .i64 a', .int .i64 b', .int .i64 c'] = decide (a = a' ∧ b = b' ∧ c = c') := by
    simp only [cellsEq_cons, cellsEq_nil, cellEq_int, Bool.and_true, Bool.decide_and]
  rw [hce] at hq
  obtain ⟨xa, xe, hVS⟩ := hs.form
  obtain ⟨ya, ye, hVT⟩ := ht.form
  obtain ⟨xa', xe', hVS'⟩ := hs'.form
  obtain ⟨ya', ye', hVT'⟩ := ht'.form
  have bad : ¬ (a = a' ∧ b = b' ∧ c = c' ∧ ss = ss' ∧ ts = ts') → sameSt (⟨a, b, c, ss, ts⟩ : St) ⟨a', b', c', ss', ts'⟩ = false := fun h => by
    simp only [sameSt, decide_eq_false_iff_not, St.mk.injEq]; exact h
  by_cases ce : a = a' ∧ b = b' ∧ c = c'
  case neg =>
    rw [decide_eq_false ce] at hq
    rw [bad fun h => ce ⟨h.1, h.2.1, h.2.2.1⟩]
    simp (maxSteps := 1000000) (disch := first | assumption | omega | rfl | decide | simp only [fitsR, Bool.and_self]) [↓rules, rules, ↓rulesDp, rulesDq, lit_u64, Int.ofNat_inj, stops, rc_reeveref11_Same, q_int, q_bool, q_reeveref1_Geo, q_S_reeveref11_Slot, q_S_reeveref11_Thing, q_reeveref11_State, q_uint64, q_A4_uint64, q_reeveref7_Cap, q_reeveref11_Slot, q_reeveref11_Thing, hq]
    exact done_q hdom k1 rfl rfl
  rw [decide_eq_true ce] at hq
  by_cases c1 : ss.length = ss'.length
  case neg =>
    have c1' : ¬ (ss.length : Int) = ss'.length := by omega
    rw [bad fun h => c1 (by rw [h.2.2.2.1])]
    simp (maxSteps := 1000000) (disch := first | assumption | omega | rfl | decide | simp only [fitsR, Bool.and_self]) [↓rules, rules, ↓rulesDp, rulesDq, lit_u64, Int.ofNat_inj, stops, rc_reeveref11_Same, q_int, q_bool, q_reeveref1_Geo, q_S_reeveref11_Slot, q_S_reeveref11_Thing, q_reeveref11_State, q_uint64, q_A4_uint64, q_reeveref7_Cap, q_reeveref11_Slot, q_reeveref11_Thing, hq, hVS, hVS', c1, c1']
    exact done_q hdom (by repeat first | exact Kept.refl hdom | refine Kept.new ?_ _ | refine Kept.drop ?_ (by omega) | refine Kept.put ?_ (by omega) (by omega) _ | refine Kept.skip ?_) rfl rfl
  have c1' : (ss.length : Int) = ss'.length := by omega
  by_cases c2 : ts.length = ts'.length
  case neg =>
    have c2' : ¬ (ts.length : Int) = ts'.length := by omega
    rw [bad fun h => c2 (by rw [h.2.2.2.2])]
    simp (maxSteps := 1000000) (disch := first | assumption | omega | rfl | decide | simp only [fitsR, Bool.and_self]) [↓rules, rules, ↓rulesDp, rulesDq, lit_u64, Int.ofNat_inj, stops, rc_reeveref11_Same, q_int, q_bool, q_reeveref1_Geo, q_S_reeveref11_Slot, q_S_reeveref11_Thing, q_reeveref11_State, q_uint64, q_A4_uint64, q_reeveref7_Cap, q_reeveref11_Slot, q_reeveref11_Thing, hq, hVS, hVS', c1, c1', hVT, hVT', c2, c2']
    exact done_q hdom (by repeat first | exact Kept.refl hdom | refine Kept.new ?_ _ | refine Kept.drop ?_ (by omega) | refine Kept.put ?_ (by omega) (by omega) _ | refine Kept.skip ?_) rfl rfl
  have c2' : (ts.length : Int) = ts'.length := by omega
  have hVS2 : VS = .slice xa ss'.length xe := by rw [hVS, c1]
  have hVT2 : VT = .slice ya ts'.length ye := by rw [hVT, c2]
  have hsG := hs.ext (k1.ext hdom)
  have hsG' := hs'.ext (k1.ext hdom)
  have htG := ht.ext (k1.ext hdom)
  have htG' := ht'.ext (k1.ext hdom)
  simp (maxSteps := 1000000) (disch := first | assumption | omega | rfl | decide | simp only [fitsR, Bool.and_self]) [↓rules, rules, ↓rulesDp, rulesDq, lit_u64, Int.ofNat_inj, stops, rc_reeveref11_Same, q_int, q_bool, q_reeveref1_Geo, q_S_reeveref11_Slot, q_S_reeveref11_Thing, q_reeveref11_State, q_uint64, q_A4_uint64, q_reeveref7_Cap, q_reeveref11_Slot, q_reeveref11_Thing, hq, hVS2, hVS', hVT2, hVT']
  rw [← hVS2, ← hVS', ← hVT2, ← hVT']
  have hG0 : gset (gset g n (some (rowS a b c VS VT))) (n + 1) (some (rowS a' b' c' VS' VT')) n = some (rowS a b c VS VT) := by simp [gset]
  have hG1 : gset (gset g n (some (rowS a b c VS VT))) (n + 1) (some (rowS a' b' c' VS' VT')) (n + 1) = some (rowS a' b' c' VS' VT') := by simp [gset]
  generalize hG : gset (gset g n (some (rowS a b c VS VT))) (n + 1) (some (rowS a' b' c' VS' VT')) = G at *
  refine rwp_loop (fun k l g' n' => ∃ i, k = ss.length - i ∧ i ≤ ss.length ∧ g' = G ∧ n' = n + 1 + 1 ∧ ss.take i = ss'.take i ∧ l = [(2, .pointer (some ⟨n, 0, none⟩)), (3, .pointer (some ⟨n + 1, 0, none⟩)), (5, .int .i64 i)]) ?_ (k := ss.length) ?_
  · rintro k l g2 n2 ⟨i, rfl, hi, rfl, rfl, he, rfl⟩
    by_cases hlt : (i : Int) < (ss'.length : Int)
    · have hlt2 : i < ss'.length := by omega
      have hlt1 : i < ss.length := by omega
      obtain ⟨b1, o1, f1, _, f2⟩ := rd_big hsG cS_len hlt1
      obtain ⟨b2, o2, f3, _, f4⟩ := rd_big hsG' cS_len hlt2
      have e1 := f2 _ (Ext.refl _) Try.prog _ ta_reeveref11_Slot ts_reeveref11_Slot
      have e2 := f4 _ (Ext.refl _) Try.prog _ ta_reeveref11_Slot ts_reeveref11_Slot
      have hqq := fun xo yo => bne_reeveref11_Slot xo yo _ _ (fitsS ss[i]) (fitsS ss'[i])
      rw [eqS] at hqq
      have w1 : IntKind.i64.wrap ((i : Int) + 1) = ((i + 1 : Nat) : Int) := by rw [wrap_i64 (by omega) (by omega)]; omega
      rw [c1] at f1
      rw [f1] at hG0
      rw [f3] at hG1
      by_cases cq : ss[i] = ss'[i]
      · rw [decide_eq_true cq] at hqq
        simp (maxSteps := 1000000) (disch := first | assumption | omega | rfl | decide | simp only [fitsR, Bool.and_self]) [↓rules, rules, ↓rulesDp, rulesDq, lit_u64, Int.ofNat_inj, stops, rc_reeveref11_Samel0, q_int, q_bool, q_reeveref1_Geo, q_S_reeveref11_Slot, q_S_reeveref11_Thing, q_reeveref11_State, q_uint64, q_A4_uint64, q_reeveref7_Cap, q_reeveref11_Slot, q_reeveref11_Thing, hG0, hG1, hlt, e1, e2, hqq, w1]
        refine ⟨ss.length - (i + 1), by omega, i + 1, rfl, by omega, by rw [tk_snoc ss i hlt1, tk_snoc ss' i hlt2, he, cq], by omega⟩
      · rw [decide_eq_false cq] at hqq
        rw [bad fun h => cq (by simp only [h.2.2.2.1])]
        simp (maxSteps := 1000000) (disch := first | assumption | omega | rfl | decide | simp only [fitsR, Bool.and_self]) [↓rules, rules, ↓rulesDp, rulesDq, lit_u64, Int.ofNat_inj, stops, rc_reeveref11_Samel0, q_int, q_bool, q_reeveref1_Geo, q_S_reeveref11_Slot, q_S_reeveref11_Thing, q_reeveref11_State, q_uint64, q_A4_uint64, q_reeveref7_Cap, q_reeveref11_Slot, q_reeveref11_Thing, hG0, hG1, hlt, e1, e2, hqq]
        exact done_q hdom k1 rfl rfl
    · have e1 : i = ss.length := by omega
      have e2 : i = ss'.length := by omega
      have heq : ss = ss' := by
        rw [e1, List.take_length, ← e1, e2, List.take_length] at he
        exact he
      rw [hVS2] at hG0
      simp (maxSteps := 1000000) (disch := first | assumption | omega | rfl | decide | simp only [fitsR, Bool.and_self]) [↓rules, rules, ↓rulesDp, rulesDq, lit_u64, Int.ofNat_inj, stops, rc_reeveref11_Samel0, q_int, q_bool, q_reeveref1_Geo, q_S_reeveref11_Slot, q_S_reeveref11_Thing, q_reeveref11_State, q_uint64, q_A4_uint64, q_reeveref7_Cap, q_reeveref11_Slot, q_reeveref11_Thing, hG0, hlt]
      have hss := heq
      rw [← hVS2] at hG0
      clear e1 e2 he heq hlt hi
      refine rwp_loop (fun k l g' n' => ∃ i, k = ts.length - i ∧ i ≤ ts.length ∧ g' = g2 ∧ n' = n + 1 + 1 ∧ ts.take i = ts'.take i ∧ l = [(2, .pointer (some ⟨n, 0, none⟩)), (3, .pointer (some ⟨n + 1, 0, none⟩)), (6, .int .i64 i)]) ?_ (k := ts.length) ?_
      · rintro k l g3 n3 ⟨i, rfl, hi, rfl, rfl, he, rfl⟩
        by_cases hlt : (i : Int) < (ts'.length : Int)
        · have hlt2 : i < ts'.length := by omega
          have hlt1 : i < ts.length := by omega
          obtain ⟨b1, o1, f1, _, f2⟩ := rd_big htG cG_len hlt1
          obtain ⟨b2, o2, f3, _, f4⟩ := rd_big htG' cG_len hlt2
          have e1 := f2 _ (Ext.refl _) Try.prog _ ta_reeveref11_Thing ts_reeveref11_Thing
          have e2 := f4 _ (Ext.refl _) Try.prog _ ta_reeveref11_Thing ts_reeveref11_Thing
          have hqq := fun xo yo => bne_reeveref11_Thing xo yo _ _ (fitsG ts[i]) (fitsG ts'[i])
          rw [eqG] at hqq
          have w1 : IntKind.i64.wrap ((i : Int) + 1) = ((i + 1 : Nat) : Int) := by rw [wrap_i64 (by omega) (by omega)]; omega
          rw [c2] at f1
          rw [f1] at hG0
          rw [f3] at hG1
          by_cases cq : ts[i] = ts'[i]
          · rw [decide_eq_true cq] at hqq
            simp (maxSteps := 1000000) (disch := first | assumption | omega | rfl | decide | simp only [fitsR, Bool.and_self]) [↓rules, rules, ↓rulesDp, rulesDq, lit_u64, Int.ofNat_inj, stops, rc_reeveref11_Samel1, q_int, q_bool, q_reeveref1_Geo, q_S_reeveref11_Slot, q_S_reeveref11_Thing, q_reeveref11_State, q_uint64, q_A4_uint64, q_reeveref7_Cap, q_reeveref11_Slot, q_reeveref11_Thing, hG0, hG1, hlt, e1, e2, hqq, w1]
            refine ⟨ts.length - (i + 1), by omega, i + 1, rfl, by omega, by rw [tk_snoc ts i hlt1, tk_snoc ts' i hlt2, he, cq], by omega⟩
          · rw [decide_eq_false cq] at hqq
            rw [bad fun h => cq (by simp only [h.2.2.2.2])]
            simp (maxSteps := 1000000) (disch := first | assumption | omega | rfl | decide | simp only [fitsR, Bool.and_self]) [↓rules, rules, ↓rulesDp, rulesDq, lit_u64, Int.ofNat_inj, stops, rc_reeveref11_Samel1, q_int, q_bool, q_reeveref1_Geo, q_S_reeveref11_Slot, q_S_reeveref11_Thing, q_reeveref11_State, q_uint64, q_A4_uint64, q_reeveref7_Cap, q_reeveref11_Slot, q_reeveref11_Thing, hG0, hG1, hlt, e1, e2, hqq]
            exact done_q hdom k1 rfl rfl
        · have e1 : i = ts.length := by omega
          have e2 : i = ts'.length := by omega
          have heq : ts = ts' := by
            rw [e1, List.take_length, ← e1, e2, List.take_length] at he
            exact he
          rw [hVT2] at hG0
          simp (maxSteps := 1000000) (disch := first | assumption | omega | rfl | decide | simp only [fitsR, Bool.and_self]) [↓rules, rules, ↓rulesDp, rulesDq, lit_u64, Int.ofNat_inj, stops, rc_reeveref11_Samel1, q_int, q_bool, q_reeveref1_Geo, q_S_reeveref11_Slot, q_S_reeveref11_Thing, q_reeveref11_State, q_uint64, q_A4_uint64, q_reeveref7_Cap, q_reeveref11_Slot, q_reeveref11_Thing, hG0, hlt]
          rw [show sameSt (⟨a, b, c, ss, ts⟩ : St) ⟨a', b', c', ss', ts'⟩ = true from sameSt_iff.2 (by rw [ce.1, ce.2.1, ce.2.2, hss, heq])]
          exact done_q hdom k1 rfl rfl
      · exact ⟨0, by simp, by simp, rfl, rfl, by simp, by rfl⟩
  · exact ⟨0, by simp, by simp, rfl, rfl, by simp, by rfl⟩
end Go.Proofs.Ytkcahnefekkfaaa.F12S

namespace Go.Proofs.Ytkcahnefekkfaaa.F12S
open Go Go.Proofs Go.Proofs.YtkcahnefekkfaaaAbs
variable [Base]
set_option maxHeartbeats 8000000
set_option maxRecDepth 100000
theorem rd_slot {g : AMem} {v : Value} {xs : List Sl} (h : rdS g v xs) {i : Nat} (hi : i < xs.length) :
    ∃ b o, v = .slice (some ⟨b, o, none⟩) xs.length 5 ∧ ∀ (g2 : AMem), Ext g g2 → (∀ (P : Program) (t : TypeId), tagg P t = some true → tsize P t = some 4 → aLoad P g2 t (.pointer (some ⟨b, o + i * 5, none⟩)) = some (.agg #[.int .i64 xs[i].ty, .int .i64 xs[i].th, .int .i64 xs[i].ri, .int .i64 xs[i].ba])) ∧ (∀ (P : Program) (t : TypeId), tagg P t = some false → aLoad P g2 t (.pointer (some ⟨b, o + i * 5 + 4, none⟩)) = some (.int .i64 xs[i].up)) := by
  obtain ⟨b, o, cs, r, h1, h2, h3, h4, h5⟩ := Rd.elem h cS_len hi
  refine ⟨b, o, h1, fun g2 hx => ⟨fun P t ht hs => ?_, fun P t ht => ?_⟩⟩
  · refine load_elem (x := [.int .i64 xs[i].ty, .int .i64 xs[i].th, .int .i64 xs[i].ri, .int .i64 xs[i].ba]) (hx _ _ h2) ht hs (by omega) ?_
    have : (cs.drop (o + i * 5)).take 4 = ((cs.drop (o + i * 5)).take 5).take 4 := by rw [List.take_take]; rfl
    rw [this, h4]; rfl
  · exact load_elem1 (hx _ _ h2) ht ((h5 4 (by omega)).trans rfl)
theorem zr5 (a b c d e : Value) : zeroRow [a, b, c, d, e] 1 = [a, b, c, d, e] := rfl
theorem zr13 (a b c d e f g h i j k l m : Value) : zeroRow [a, b, c, d, e, f, g, h, i, j, k, l, m] 1 = [a, b, c, d, e, f, g, h, i, j, k, l, m] := rfl
theorem fm_snoc {α : Type} (enc : α → List Value) (xs : List α) (x : α) : (xs ++ [x]).flatMap enc = xs.flatMap enc ++ enc x := by
  rw [List.flatMap_append, List.flatMap_cons, List.flatMap_nil, List.append_nil]
theorem apart {n m q l : Nat} {g : AMem} {WS : Value} {ss : List Sl} (l' : Nat) (h : Gb 5 cS n g WS ss) (hd : ∀ i, g i ≠ none → i < m) (hq : m < q) : ∀ (b1 x x_1 x_2 : Nat), WS = .slice (some ⟨b1, x, none⟩) x_1 x_2 → ∀ (b2 y y_1 y_2 : Nat), q = b2 → 0 = y → l = y_1 → l' = y_2 → ¬ b1 = b2 := by
  intro b1 x x1 x2 hw b2 y y1 y2 hv _ _ _
  rcases h with ⟨h1, _⟩ | ⟨bS, _, h1, h2⟩
  · rw [h1] at hw; cases hw
  · rw [h1] at hw
    have := hd bS (by rw [h2]; simp)
    cases hw
    omega
theorem law_ownOf (a b c : Int) (VS VT : Value) (ss : List Sl) (ts : List Tg) (g : AMem) (n : Nat) (hdom : ∀ i, g i ≠ none → i < n) (h1 : ss.length ≤ 100000) (h2 : ts.length ≤ 100000) (hs : rdS g VS ss) (ht : rdG g VT ts) :
    FnS Try.prog f_reevelaw12_ownOf [sv a b c VS VT] g n (fun _ => False) fun v g' n' => ∃ WS WT, v = sv a b c WS WT ∧ (Gb 5 cS n g' WS ss ∧ Gb 13 cG n g' WT ts) ∧ Kept g n g' n' := by
  refine fnS_of_rwp t_reevelaw12_ownOf hm rfl hdom ?_
  obtain ⟨xa, xe, hVS⟩ := hs.form
  obtain ⟨ya, ye, hVT⟩ := ht.form
  simp (maxSteps := 1000000) (disch := first | assumption | omega | rfl | decide | simp only [fitsR, Bool.and_self]) [↓rules, rules, ↓rulesDp, rulesDq, lit_u64, Int.ofNat_inj, stops, rc_reevelaw12_ownOf, q_int, q_bool, q_geo_Geo, q_S_state_Slot, q_S_thing_Thing, q_state_State, q_cap_Cap, q_state_Slot, q_reeveref1_Geo, q_S_reeveref11_Slot, q_S_reeveref11_Thing, q_reeveref11_State, q_uint64, q_A4_uint64, q_thing_Thing, q_reeveref7_Cap, q_reeveref11_Slot, q_reeveref11_Thing, do_buildS tz_reeveref1_Geo tp_reeveref1_Geo, do_buildS tz_reeveref11_State tp_reeveref11_State]
  refine ⟨by omega, ?_⟩
  refine rwp_loop (fun j l g' n' => ∃ i WS, j = ss.length - i ∧ i ≤ ss.length ∧ Kept g n g' n' ∧ n + 1 + 1 + 1 ≤ n' ∧ g' n = some (rowS a b c VS VT) ∧ g' (n + 1) = some (rowS 0 0 0 (.slice none 0 0) (.slice none 0 0)) ∧ g' (n + 1 + 1) = some (rowS a b c WS (.slice none 0 0)) ∧ Gb 5 cS (n + 1 + 1 + 1) g' WS (ss.take i) ∧ l = [(1, .pointer (some ⟨n, 0, none⟩)), (2, .pointer (some ⟨n + 1, 0, none⟩)), (3, .pointer (some ⟨n + 1 + 1, 0, none⟩)), (4, .int .i64 i)]) ?_ (k := ss.length) ?_
  · rintro j l g' n' ⟨i, WS, rfl, hi, kp, hn', r0, r1, r2, hW, rfl⟩
    by_cases hlt : (i : Int) < (ss.length : Int)
    case neg =>
      have : i = ss.length := by omega
      subst this
      rw [List.take_length] at hW
      rw [hVS] at r0
      simp (maxSteps := 1000000) (disch := first | assumption | omega | rfl | decide | simp only [fitsR, Bool.and_self]) [↓rules, rules, ↓rulesDp, rulesDq, lit_u64, Int.ofNat_inj, stops, rc_reevelaw12_ownOfl0, q_int, q_bool, q_geo_Geo, q_S_state_Slot, q_S_thing_Thing, q_state_State, q_cap_Cap, q_state_Slot, q_reeveref1_Geo, q_S_reeveref11_Slot, q_S_reeveref11_Thing, q_reeveref11_State, q_uint64, q_A4_uint64, q_thing_Thing, q_reeveref7_Cap, q_reeveref11_Slot, q_reeveref11_Thing, r0, hlt]
      rw [← hVS] at r0
      refine rwp_loop (fun j l g2 n2 => ∃ i WT, j = ts.length - i ∧ i ≤ ts.length ∧ Kept g n g2 n2 ∧ n + 1 + 1 + 1 ≤ n2 ∧ g2 n = some (rowS a b c VS VT) ∧ g2 (n + 1) = some (rowS 0 0 0 (.slice none 0 0) (.slice none 0 0)) ∧ g2 (n + 1 + 1) = some (rowS a b c WS WT) ∧ Gb 5 cS (n + 1 + 1 + 1) g2 WS ss ∧ Gb 13 cG (n + 1 + 1 + 1) g2 WT (ts.take i) ∧ (∀ b1, (∃ o1 l1 e1, WS = .slice (some ⟨b1, o1, none⟩) l1 e1) → ∀ b2, (∃ o2 l2 e2, WT = .slice (some ⟨b2, o2, none⟩) l2 e2) → b1 ≠ b2) ∧ l = [(1, .pointer (some ⟨n, 0, none⟩)), (2, .pointer (some ⟨n + 1, 0, none⟩)), (3, .pointer (some ⟨n + 1 + 1, 0, none⟩)), (6, .int .i64 i)]) ?_ (k := ts.length) ?_
      · rintro j l g2 n2 ⟨i, WT, rfl, hi2, kp2, hn2, t0, t1, t2, hW2, hT, hap, rfl⟩
        by_cases hlt2 : (i : Int) < (ts.length : Int)
        case neg =>
          have : i = ts.length := by omega
          subst this
          rw [List.take_length] at hT
          rw [hVT] at t0
          have hc1 : cellOk WS = true := by obtain ⟨pa, pe, h⟩ := (Gb_rd cS_len hW2).form; rw [h]; rfl
          have hc2 : cellOk WT = true := by obtain ⟨pa, pe, h⟩ := (Gb_rd cG_len hT).form; rw [h]; rfl
          simp (maxSteps := 1000000) (disch := first | assumption | omega | rfl | decide | simp only [fitsR, Bool.and_self]) [↓rules, rules, ↓rulesDp, rulesDq, lit_u64, Int.ofNat_inj, stops, rc_reevelaw12_ownOfl1, q_int, q_bool, q_geo_Geo, q_S_state_Slot, q_S_thing_Thing, q_state_State, q_cap_Cap, q_state_Slot, q_reeveref1_Geo, q_S_reeveref11_Slot, q_S_reeveref11_Thing, q_reeveref11_State, q_uint64, q_A4_uint64, q_thing_Thing, q_reeveref7_Cap, q_reeveref11_Slot, q_reeveref11_Thing, t0, hlt2, t1, t2, hc1, hc2]
          refine sdone_ret (v := sv a b c WS WT) (by simp (maxSteps := 1000000) (disch := first | assumption | omega | rfl | decide | simp only [fitsR, Bool.and_self]) [↓rules, rules, ↓rulesDp, rulesDq, lit_u64, Int.ofNat_inj, stops, aResults, aRes, q_int, q_bool, q_geo_Geo, q_S_state_Slot, q_S_thing_Thing, q_state_State, q_cap_Cap, q_state_Slot, q_reeveref1_Geo, q_S_reeveref11_Slot, q_S_reeveref11_Thing, q_reeveref11_State, q_uint64, q_A4_uint64, q_thing_Thing, q_reeveref7_Cap, q_reeveref11_Slot, q_reeveref11_Thing]) ⟨_, _, rfl, ⟨Gb_put _ hW2 (by omega) (by omega), Gb_put _ hT (by omega) (by omega)⟩, kp2.put (by omega) (by omega) _⟩
        have hlt3 : i < ts.length := by omega
        obtain ⟨b1, o1, f1, _, f2⟩ := rd_big ht cG_len hlt3
        have e1 := f2 g2 (kp2.ext hdom) Try.prog _ ta_thing_Thing ts_thing_Thing
        have hts := tk_snoc ts i hlt3
        have w1 : IntKind.i64.wrap ((i : Int) + 1) = ((i + 1 : Nat) : Int) := by rw [wrap_i64 (by omega) (by omega)]; omega
        have t0' := t0
        rw [f1] at t0'
        simp (maxSteps := 1000000) (disch := first | assumption | omega | rfl | decide | simp only [fitsR, Bool.and_self]) [↓rules, rules, ↓rulesDp, rulesDq, lit_u64, Int.ofNat_inj, stops, rc_reevelaw12_ownOfl1, q_int, q_bool, q_geo_Geo, q_S_state_Slot, q_S_thing_Thing, q_state_State, q_cap_Cap, q_state_Slot, q_reeveref1_Geo, q_S_reeveref11_Slot, q_S_reeveref11_Thing, q_reeveref11_State, q_uint64, q_A4_uint64, q_thing_Thing, q_reeveref7_Cap, q_reeveref11_Slot, q_reeveref11_Thing, t0', hlt2, e1, t2]
        refine dcall_quiet kp2.dom rfl (law_thingOf ts[i] _ _) (by simp (maxSteps := 1000000) (disch := first | assumption | omega | rfl | decide | simp only [fitsR, Bool.and_self]) [↓rules, rules, ↓rulesDp, rulesDq, lit_u64, Int.ofNat_inj]) ?_
        rcases hT with ⟨rfl, hnil⟩ | ⟨bW, hbW, rfl, hgW⟩
        · simp (maxSteps := 1000000) (disch := first | assumption | omega | rfl | decide | simp only [fitsR, Bool.and_self]) [↓rules, rules, ↓rulesDp, rulesDq, lit_u64, Int.ofNat_inj, stops, q_int, q_bool, q_geo_Geo, q_S_state_Slot, q_S_thing_Thing, q_state_State, q_cap_Cap, q_state_Slot, q_reeveref1_Geo, q_S_reeveref11_Slot, q_S_reeveref11_Thing, q_reeveref11_State, q_uint64, q_A4_uint64, q_thing_Thing, q_reeveref7_Cap, q_reeveref11_Slot, q_reeveref11_Thing, t2, cG, zr13, w1]
          refine ⟨by omega, ts.length - (i + 1), by omega, i + 1, rfl, by omega, (by repeat first | exact kp2 | refine Kept.new ?_ _ | refine Kept.drop ?_ (by omega) | refine Kept.put ?_ (by omega) (by omega) _ | refine Kept.skip ?_), by omega, t0, t1, ?_, ?_, ?_, by omega⟩
          · exact Gb_put _ (Gb_new _ (Gb_new _ hW2 kp2.dom) (kp2.new _).dom) (by omega) (Nat.le_refl _)
          · rw [hts, hnil]
            refine Or.inr ⟨n2 + 1, by omega, rfl, ?_⟩
            simp only [gset]
            rw [if_neg (by omega), if_pos trivial]; rfl
          · exact apart _ hW2 kp2.dom (Nat.lt_succ_self _)
        · have hbm := kp2.dom bW (by rw [hgW]; simp)
          have hwl : (ts.take i).length = i := by rw [List.length_take]; omega
          have hfl := flat_length cG_len (ts.take i)
          rw [hwl] at hfl
          have hsz : (i + 1) * 104 ≤ 70368744177664 := by omega
          have hsz2 : i + 1 ≤ 70368744177664 := by omega
          have x1 : bW ≠ n2 := by omega
          generalize hcs : (ts.take i).flatMap cG = cs at *
          simp (maxSteps := 1000000) (disch := first | assumption | omega | rfl | decide | simp only [fitsR, Bool.and_self]) [↓rules, rules, ↓rulesDp, rulesDq, lit_u64, Int.ofNat_inj, stops, q_int, q_bool, q_geo_Geo, q_S_state_Slot, q_S_thing_Thing, q_state_State, q_cap_Cap, q_state_Slot, q_reeveref1_Geo, q_S_reeveref11_Slot, q_S_reeveref11_Thing, q_reeveref11_State, q_uint64, q_A4_uint64, q_thing_Thing, q_reeveref7_Cap, q_reeveref11_Slot, q_reeveref11_Thing, t2, cG, zr13, w1, hwl, hgW, hfl, hsz, hsz2, x1]
          have hap2 : Gb 5 cS (n + 1 + 1 + 1) (gset g2 bW none) WS ss := by
            rcases hW2 with h | ⟨bS, hbS, h1, h2⟩
            · exact Or.inl h
            · refine Or.inr ⟨bS, hbS, h1, ?_⟩
              have : bS ≠ bW := hap bS ⟨_, _, _, h1⟩ bW ⟨_, _, _, rfl⟩
              rw [gset, if_neg this]; exact h2
          refine ⟨by omega, by omega, ts.length - (i + 1), by omega, i + 1, rfl, by omega, (by repeat first | exact kp2 | refine Kept.new ?_ _ | refine Kept.drop ?_ (by omega) | refine Kept.put ?_ (by omega) (by omega) _ | refine Kept.skip ?_), by omega, t0, t1, ?_, ?_, ?_, by omega⟩
          · rcases hap2 with h | ⟨bS, hbS, h1, h2⟩
            · exact Or.inl h
            · refine Or.inr ⟨bS, hbS, h1, ?_⟩
              have hne : bS ≠ bW := hap bS ⟨_, _, _, h1⟩ bW ⟨_, _, _, rfl⟩
              rw [gset, if_neg hne] at h2
              have := kp2.dom bS (by rw [h2]; simp)
              simp only [gset]
              rw [if_neg (by omega), if_neg (by omega)]
              first
                | (rw [if_neg hne, if_neg (by omega)]; exact h2)
                | (rw [if_neg (by omega), if_neg hne]; exact h2)
                | (rw [if_neg hne]; exact h2)
          · rw [hts]
            refine Or.inr ⟨n2 + 1, by omega, by rw [List.length_append, hwl]; rfl, ?_⟩
            simp only [gset]
            rw [if_neg (by omega), if_pos trivial, fm_snoc, hcs]; rfl
          · exact apart _ hW2 kp2.dom (Nat.lt_succ_self _)
      · refine ⟨0, .slice none 0 0, by simp, by simp, kp, hn', r0, r1, r2, hW, Or.inl ⟨rfl, rfl⟩, (fun _ _ _ ⟨_, _, _, h⟩ => by cases h), by rfl⟩
    have hlt1 : i < ss.length := by omega
    obtain ⟨b1, o1, f1, f2⟩ := rd_slot hs hlt1
    have hts := tk_snoc ss i hlt1
    have w1 : IntKind.i64.wrap ((i : Int) + 1) = ((i + 1 : Nat) : Int) := by rw [wrap_i64 (by omega) (by omega)]; omega
    obtain ⟨e1, e2⟩ := f2 g' (kp.ext hdom)
    have e1' := e1 Try.prog _ ta_cap_Cap ts_cap_Cap
    have r0' := r0
    rw [f1] at r0'
    simp (maxSteps := 1000000) (disch := first | assumption | omega | rfl | decide | simp only [fitsR, Bool.and_self]) [↓rules, rules, ↓rulesDp, rulesDq, lit_u64, Int.ofNat_inj, stops, rc_reevelaw12_ownOfl0, q_int, q_bool, q_geo_Geo, q_S_state_Slot, q_S_thing_Thing, q_state_State, q_cap_Cap, q_state_Slot, q_reeveref1_Geo, q_S_reeveref11_Slot, q_S_reeveref11_Thing, q_reeveref11_State, q_uint64, q_A4_uint64, q_thing_Thing, q_reeveref7_Cap, q_reeveref11_Slot, q_reeveref11_Thing, r0', hlt, e1']
    have kq := kp.new (.row [.int .i64 ss[i].ty, .int .i64 ss[i].th, .int .i64 ss[i].ri, .int .i64 ss[i].ba] true)
    have e2' := (f2 _ (kq.ext hdom)).2 Try.prog _ ta_int
    rcases hW with ⟨rfl, hnil⟩ | ⟨bW, hbW, rfl, hgW⟩
    · simp (maxSteps := 1000000) (disch := first | assumption | omega | rfl | decide | simp only [fitsR, Bool.and_self]) [↓rules, rules, ↓rulesDp, rulesDq, lit_u64, Int.ofNat_inj, stops, q_int, q_bool, q_geo_Geo, q_S_state_Slot, q_S_thing_Thing, q_state_State, q_cap_Cap, q_state_Slot, q_reeveref1_Geo, q_S_reeveref11_Slot, q_S_reeveref11_Thing, q_reeveref11_State, q_uint64, q_A4_uint64, q_thing_Thing, q_reeveref7_Cap, q_reeveref11_Slot, q_reeveref11_Thing, r2, r0', hlt, e2', do_buildS tz_reeveref7_Cap tp_reeveref7_Cap, do_buildS tz_reeveref11_Slot tp_reeveref11_Slot, zr5, w1]
      refine ⟨by omega, by omega, ss.length - (i + 1), by omega, i + 1, rfl, by omega, (by repeat first | exact kp | refine Kept.new ?_ _ | refine Kept.drop ?_ (by omega) | refine Kept.put ?_ (by omega) (by omega) _ | refine Kept.skip ?_), by omega, f1.symm, r1, ?_, by omega⟩
      rw [hts, hnil]
      refine Or.inr ⟨n' + 1 + 1, by omega, rfl, ?_⟩
      simp only [gset]
      rw [if_neg (by omega), if_pos trivial]; rfl
    · have hbm := kp.dom bW (by rw [hgW]; simp)
      have hwl : (ss.take i).length = i := by rw [List.length_take]; omega
      have hfl := flat_length cS_len (ss.take i)
      rw [hwl] at hfl
      have hsz : (i + 1) * 40 ≤ 70368744177664 := by omega
      have hsz2 : i + 1 ≤ 70368744177664 := by omega
      have x1 : bW ≠ n' := by omega
      have x2 : bW ≠ n' + 1 := by omega
      generalize hcs : (ss.take i).flatMap cS = cs at *
      simp (maxSteps := 1000000) (disch := first | assumption | omega | rfl | decide | simp only [fitsR, Bool.and_self]) [↓rules, rules, ↓rulesDp, rulesDq, lit_u64, Int.ofNat_inj, stops, q_int, q_bool, q_geo_Geo, q_S_state_Slot, q_S_thing_Thing, q_state_State, q_cap_Cap, q_state_Slot, q_reeveref1_Geo, q_S_reeveref11_Slot, q_S_reeveref11_Thing, q_reeveref11_State, q_uint64, q_A4_uint64, q_thing_Thing, q_reeveref7_Cap, q_reeveref11_Slot, q_reeveref11_Thing, r2, r0', hlt, e2', do_buildS tz_reeveref7_Cap tp_reeveref7_Cap, do_buildS tz_reeveref11_Slot tp_reeveref11_Slot, zr5, w1, hwl, hgW, hfl, hsz, hsz2, x1, x2]
      refine ⟨by omega, by omega, by omega, ss.length - (i + 1), by omega, i + 1, rfl, by omega, (by repeat first | exact kp | refine Kept.new ?_ _ | refine Kept.drop ?_ (by omega) | refine Kept.put ?_ (by omega) (by omega) _ | refine Kept.skip ?_), by omega, f1.symm, r1, ?_, by omega⟩
      rw [hts]
      refine Or.inr ⟨n' + 1 + 1, by omega, by rw [List.length_append, hwl]; rfl, ?_⟩
      simp only [gset]
      rw [if_neg (by omega), if_pos trivial, fm_snoc, hcs]; rfl
  · refine ⟨0, .slice none 0 0, by simp, by simp, (by repeat first | exact Kept.refl hdom | refine Kept.new ?_ _ | refine Kept.drop ?_ (by omega) | refine Kept.put ?_ (by omega) (by omega) _ | refine Kept.skip ?_), by omega, by simp only [gset]; rw [if_neg (by omega), if_neg (by omega), if_pos trivial], by simp only [gset]; rw [if_neg (by omega), if_pos trivial], by simp [gset], Or.inl ⟨rfl, rfl⟩, by rfl⟩
end Go.Proofs.Ytkcahnefekkfaaa.F12S

namespace Go.Proofs.Ytkcahnefekkfaaa.F12S
open Go Go.Proofs Go.Proofs.YtkcahnefekkfaaaAbs
variable [Base]
set_option maxRecDepth 100000
/-! ### state.Good of given states: each by a run of its own -/
abbrev I (n : Nat) : Value := .int .i64 (.ofNat n)
abbrev M (n : Nat) : Value := .int .i64 (.negSucc n)
abbrev B (b : Bool) : Value := .bool b
abbrev U8 (n : Nat) : Value := .int .u64 (.ofNat n)
noncomputable def g_first : Memo := ⟨[I 2, I 32, I 16], 32, 5, 16, 13,
  [I 1, I 0, I 7, I 0, M 0,
   I 3, I 1, I 7, I 0, M 0,
   I 0, I 0, I 0, I 0, M 0,
   I 0, I 0, I 0, I 0, M 0,
   I 0, I 0, I 0, I 0, M 0,
   I 0, I 0, I 0, I 0, M 0,
   I 0, I 0, I 0, I 0, M 0,
   I 0, I 0, I 0, I 0, M 0,
   I 0, I 0, I 0, I 0, M 0,
   I 3, I 1, I 7, I 0, I 1,
   I 0, I 0, I 0, I 0, M 0,
   I 0, I 0, I 0, I 0, M 0,
   I 0, I 0, I 0, I 0, M 0,
   I 0, I 0, I 0, I 0, M 0,
   I 0, I 0, I 0, I 0, M 0,
   I 0, I 0, I 0, I 0, M 0,
   I 0, I 0, I 0, I 0, M 0,
   I 0, I 0, I 0, I 0, M 0,
   I 0, I 0, I 0, I 0, M 0,
   I 0, I 0, I 0, I 0, M 0,
   I 0, I 0, I 0, I 0, M 0,
   I 0, I 0, I 0, I 0, M 0,
   I 0, I 0, I 0, I 0, M 0,
   I 0, I 0, I 0, I 0, M 0,
   I 0, I 0, I 0, I 0, M 0,
   I 0, I 0, I 0, I 0, M 0,
   I 0, I 0, I 0, I 0, M 0,
   I 0, I 0, I 0, I 0, M 0,
   I 0, I 0, I 0, I 0, M 0,
   I 0, I 0, I 0, I 0, M 0,
   I 0, I 0, I 0, I 0, M 0,
   I 0, I 0, I 0, I 0, M 0],
  [I 1, I 0, I 0, I 64, I 0, I 0, I 0, B false, U8 0, U8 0, U8 0, U8 0, U8 0,
   I 3, I 0, I 0, I 0, I 0, I 0, I 0, B false, U8 0, U8 0, U8 0, U8 0, U8 0,
   I 2, I 3, I 0, I 0, I 0, I 0, I 0, B false, U8 0, U8 0, U8 0, U8 0, U8 0,
   I 2, I 3, I 8, I 0, I 0, I 0, I 0, B false, U8 0, U8 0, U8 0, U8 0, U8 0,
   I 0, I 0, I 0, I 0, I 0, I 0, I 0, B false, U8 0, U8 0, U8 0, U8 0, U8 0,
   I 0, I 0, I 0, I 0, I 0, I 0, I 0, B false, U8 0, U8 0, U8 0, U8 0, U8 0,
   I 0, I 0, I 0, I 0, I 0, I 0, I 0, B false, U8 0, U8 0, U8 0, U8 0, U8 0,
   I 0, I 0, I 0, I 0, I 0, I 0, I 0, B false, U8 0, U8 0, U8 0, U8 0, U8 0,
   I 0, I 0, I 0, I 0, I 0, I 0, I 0, B false, U8 0, U8 0, U8 0, U8 0, U8 0,
   I 0, I 0, I 0, I 0, I 0, I 0, I 0, B false, U8 0, U8 0, U8 0, U8 0, U8 0,
   I 0, I 0, I 0, I 0, I 0, I 0, I 0, B false, U8 0, U8 0, U8 0, U8 0, U8 0,
   I 0, I 0, I 0, I 0, I 0, I 0, I 0, B false, U8 0, U8 0, U8 0, U8 0, U8 0,
   I 0, I 0, I 0, I 0, I 0, I 0, I 0, B false, U8 0, U8 0, U8 0, U8 0, U8 0,
   I 0, I 0, I 0, I 0, I 0, I 0, I 0, B false, U8 0, U8 0, U8 0, U8 0, U8 0,
   I 0, I 0, I 0, I 0, I 0, I 0, I 0, B false, U8 0, U8 0, U8 0, U8 0, U8 0,
   I 0, I 0, I 0, I 0, I 0, I 0, I 0, B false, U8 0, U8 0, U8 0, U8 0, U8 0], true⟩
theorem g_first_ok : MemoOk Try.prog f_state_Good g_first := memo_run hm tabOk ExtOk.nil (k := 4000) (d := 60) (by kernel_rfl)
noncomputable def goods : List Memo := [g_first]
theorem goods_ok : ∀ m, m ∈ goods → MemoOk Try.prog f_state_Good m := fun m hm => by
  simp only [goods, List.mem_cons, List.not_mem_nil, or_false] at hm
  subst hm
  · exact g_first_ok
noncomputable def ext : XExt := [(f_state_Good, memoF goods)]
theorem extOk : ExtOk Try.prog ext := ExtOk.cons (memo_ok t_state_Good.go goods_ok) ExtOk.nil
end Go.Proofs.Ytkcahnefekkfaaa.F12S

namespace Go.Proofs.Ytkcahnefekkfaaa.F12S
open Go Go.Proofs Go.Proofs.YtkcahnefekkfaaaAbs
variable [Base]
set_option maxHeartbeats 8000000
set_option maxRecDepth 100000
theorem aw12_run : yesT (cfn Try.prog tab ext 4000 60 f_reevelaw12_awake [] TM.none 0) = true := by kernel_rfl
theorem awake12 (g : AMem) (n : Nat) : FnC Try.prog f_reevelaw12_awake [] g n (fun _ => False) (.bool true) g n :=
  let ⟨_, h⟩ := quick_fnC hm tabOk extOk aw12_run
  FnC.closed h rfl rfl g n
theorem wrap_ne (x : Int) : IntKind.i64.wrap (x + 1) ≠ x := by
  have e : (2 : Int) ^ 64 = 18446744073709551616 := rfl
  have e2 : (2 : Int) ^ (64 - 1) = 9223372036854775808 := rfl
  simp only [IntKind.wrap, IntKind.bits, IntKind.signed, e, e2, Bool.true_and, decide_eq_true_eq]
  split <;> omega
theorem flat_set (v : Int) : ∀ (ss : List Sl) (q : Nat) (h : q < ss.length), (ss.flatMap cS).set (q * 5 + 4) (.int .i64 v) = (ss.set q { ss[q] with up := v }).flatMap cS
  | x :: ss, 0, h => rfl
  | x :: ss, q + 1, h => by
    have ih := flat_set v ss q (by simpa using h)
    rw [List.flatMap_cons, List.set_append_right _ _ (by rw [cS_len]; omega), cS_len, show (q + 1) * 5 + 4 - 5 = q * 5 + 4 by omega, ih]
    rfl
theorem stateSame (a1 b1 c1 : Int) (VS1 : Value) (ss1 : List Sl) (VT1 : Value) (ts1 : List Tg) (a2 b2 c2 : Int) (VS2 : Value) (ss2 : List Sl) (VT2 : Value) (ts2 : List Tg) (i : Int) (g : AMem) (n : Nat) (hdom : ∀ i, g i ≠ none → i < n)
    (hs1 : rdS g VS1 ss1) (ht1 : rdG g VT1 ts1) (hs2 : rdS g VS2 ss2) (ht2 : rdG g VT2 ts2) :
    FnC Try.prog f_reevelaw12_StateSame [sv a1 b1 c1 VS1 VT1, sv a2 b2 c2 VS2 VT2, .int .i64 i] g n (fun _ => False) (.bool true) g n := by
  refine fnC_of_rwp t_reevelaw12_StateSame hm rfl fun hdom => ?_
  have k1 : Kept g n (gset (gset g n (some (rowS a1 b1 c1 VS1 VT1))) (n + 1) (some (rowS a2 b2 c2 VS2 VT2))) (n + 1 + 1) := (by repeat first | exact Kept.refl hdom | refine Kept.new ?_ _ | refine Kept.drop ?_ (by omega) | refine Kept.put ?_ (by omega) (by omega) _ | refine Kept.skip ?_)
  simp (maxSteps := 1000000) (disch := first | assumption | omega | rfl | decide | simp only [fitsR, Bool.and_self]) [↓rules, rules, ↓rulesDp, rulesDq, lit_u64, Int.ofNat_inj, stops, rc_reevelaw12_StateSame, q_int, q_bool, q_geo_Geo, q_S_state_Slot, q_S_thing_Thing, q_state_State, q_cap_Cap, q_state_Slot, q_reeveref1_Geo, q_S_reeveref11_Slot, q_S_reeveref11_Thing, q_reeveref11_State, q_uint64, q_A4_uint64, q_thing_Thing, q_reeveref7_Cap, q_reeveref11_Slot, q_reeveref11_Thing]
  have hG0 : gset (gset g n (some (rowS a1 b1 c1 VS1 VT1))) (n + 1) (some (rowS a2 b2 c2 VS2 VT2)) n = some (rowS a1 b1 c1 VS1 VT1) := by simp [gset]
  have hG1 : gset (gset g n (some (rowS a1 b1 c1 VS1 VT1))) (n + 1) (some (rowS a2 b2 c2 VS2 VT2)) (n + 1) = some (rowS a2 b2 c2 VS2 VT2) := by simp [gset]
  generalize hG : gset (gset g n (some (rowS a1 b1 c1 VS1 VT1))) (n + 1) (some (rowS a2 b2 c2 VS2 VT2)) = G at *
  refine rcall_quiet rfl (awake12 _ _) ?_
  simp (maxSteps := 1000000) (disch := first | assumption | omega | rfl | decide | simp only [fitsR, Bool.and_self]) [↓rules, rules, ↓rulesDp, rulesDq, lit_u64, Int.ofNat_inj, stops, q_int, q_bool, q_geo_Geo, q_S_state_Slot, q_S_thing_Thing, q_state_State, q_cap_Cap, q_state_Slot, q_reeveref1_Geo, q_S_reeveref11_Slot, q_S_reeveref11_Thing, q_reeveref11_State, q_uint64, q_A4_uint64, q_thing_Thing, q_reeveref7_Cap, q_reeveref11_Slot, q_reeveref11_Thing, hG0]
  refine rcall_quiet rfl (law_heavy a1 b1 c1 VS1 VT1 ss1 ts1 _ _ (hs1.ext (k1.ext hdom)) (ht1.ext (k1.ext hdom))) ?_
  cases hv1 : hvy ss1 ts1
  case true =>
    simp (maxSteps := 1000000) (disch := first | assumption | omega | rfl | decide | simp only [fitsR, Bool.and_self]) [↓rules, rules, ↓rulesDp, rulesDq, lit_u64, Int.ofNat_inj, stops, q_int, q_bool, q_geo_Geo, q_S_state_Slot, q_S_thing_Thing, q_state_State, q_cap_Cap, q_state_Slot, q_reeveref1_Geo, q_S_reeveref11_Slot, q_S_reeveref11_Thing, q_reeveref11_State, q_uint64, q_A4_uint64, q_thing_Thing, q_reeveref7_Cap, q_reeveref11_Slot, q_reeveref11_Thing]
    exact done_q hdom k1 rfl rfl
  simp (maxSteps := 1000000) (disch := first | assumption | omega | rfl | decide | simp only [fitsR, Bool.and_self]) [↓rules, rules, ↓rulesDp, rulesDq, lit_u64, Int.ofNat_inj, stops, q_int, q_bool, q_geo_Geo, q_S_state_Slot, q_S_thing_Thing, q_state_State, q_cap_Cap, q_state_Slot, q_reeveref1_Geo, q_S_reeveref11_Slot, q_S_reeveref11_Thing, q_reeveref11_State, q_uint64, q_A4_uint64, q_thing_Thing, q_reeveref7_Cap, q_reeveref11_Slot, q_reeveref11_Thing, hG1]
  refine rcall_quiet rfl (law_heavy a2 b2 c2 VS2 VT2 ss2 ts2 _ _ (hs2.ext (k1.ext hdom)) (ht2.ext (k1.ext hdom))) ?_
  cases hv2 : hvy ss2 ts2
  case true =>
    simp (maxSteps := 1000000) (disch := first | assumption | omega | rfl | decide | simp only [fitsR, Bool.and_self]) [↓rules, rules, ↓rulesDp, rulesDq, lit_u64, Int.ofNat_inj, stops, q_int, q_bool, q_geo_Geo, q_S_state_Slot, q_S_thing_Thing, q_state_State, q_cap_Cap, q_state_Slot, q_reeveref1_Geo, q_S_reeveref11_Slot, q_S_reeveref11_Thing, q_reeveref11_State, q_uint64, q_A4_uint64, q_thing_Thing, q_reeveref7_Cap, q_reeveref11_Slot, q_reeveref11_Thing]
    exact done_q hdom k1 rfl rfl
  have lens : ∀ (ss : List Sl) (ts : List Tg), hvy ss ts = false → ss.length ≤ 100000 ∧ ts.length ≤ 100000 := fun ss ts h => by
    simp only [hvy, Bool.or_eq_false_iff, decide_eq_false_iff_not] at h
    omega
  obtain ⟨ls1, lt1⟩ := lens ss1 ts1 hv1
  obtain ⟨ls2, lt2⟩ := lens ss2 ts2 hv2
  simp (maxSteps := 1000000) (disch := first | assumption | omega | rfl | decide | simp only [fitsR, Bool.and_self]) [↓rules, rules, ↓rulesDp, rulesDq, lit_u64, Int.ofNat_inj, stops, q_int, q_bool, q_geo_Geo, q_S_state_Slot, q_S_thing_Thing, q_state_State, q_cap_Cap, q_state_Slot, q_reeveref1_Geo, q_S_reeveref11_Slot, q_S_reeveref11_Thing, q_reeveref11_State, q_uint64, q_A4_uint64, q_thing_Thing, q_reeveref7_Cap, q_reeveref11_Slot, q_reeveref11_Thing, hG0, hG1]
  refine dcall_quiet k1.dom rfl (state_Same ⟨a1, b1, c1, ss1, ts1⟩ ⟨a2, b2, c2, ss2, ts2⟩ VS1 VT1 VS2 VT2 _ _ k1.dom ls1 lt1 ls2 lt2 (hs1.ext (k1.ext hdom)) (ht1.ext (k1.ext hdom)) (hs2.ext (k1.ext hdom)) (ht2.ext (k1.ext hdom))) (by simp (maxSteps := 1000000) (disch := first | assumption | omega | rfl | decide | simp only [fitsR, Bool.and_self]) [↓rules, rules, ↓rulesDp, rulesDq, lit_u64, Int.ofNat_inj]) ?_
  simp (maxSteps := 1000000) (disch := first | assumption | omega | rfl | decide | simp only [fitsR, Bool.and_self]) [↓rules, rules, ↓rulesDp, rulesDq, lit_u64, Int.ofNat_inj, stops, q_int, q_bool, q_geo_Geo, q_S_state_Slot, q_S_thing_Thing, q_state_State, q_cap_Cap, q_state_Slot, q_reeveref1_Geo, q_S_reeveref11_Slot, q_S_reeveref11_Thing, q_reeveref11_State, q_uint64, q_A4_uint64, q_thing_Thing, q_reeveref7_Cap, q_reeveref11_Slot, q_reeveref11_Thing, hG0]
  refine dcall_spec k1.dom (law_ownOf a1 b1 c1 VS1 VT1 ss1 ts1 _ _ k1.dom ls1 lt1 (hs1.ext (k1.ext hdom)) (ht1.ext (k1.ext hdom))) (fun _ _ _ ⟨_, _, _, _, h⟩ => h) rfl (by simp (maxSteps := 1000000) (disch := first | assumption | omega | rfl | decide | simp only [fitsR, Bool.and_self]) [↓rules, rules, ↓rulesDp, rulesDq, lit_u64, Int.ofNat_inj]) fun r2 g2 n2 ⟨WS1, WT1, hr2, ⟨rS1, rT1⟩, q2⟩ => ?_
  subst hr2
  have k2 := k1.trans q2
  have l2 := q2.le
  have h20 : g2 n = some (rowS a1 b1 c1 VS1 VT1) := by rw [q2.same _ (by omega)]; exact hG0
  have h21 : g2 (n + 1) = some (rowS a2 b2 c2 VS2 VT2) := by rw [q2.same _ (by omega)]; exact hG1
  simp (maxSteps := 1000000) (disch := first | assumption | omega | rfl | decide | simp only [fitsR, Bool.and_self]) [↓rules, rules, ↓rulesDp, rulesDq, lit_u64, Int.ofNat_inj, stops, q_int, q_bool, q_geo_Geo, q_S_state_Slot, q_S_thing_Thing, q_state_State, q_cap_Cap, q_state_Slot, q_reeveref1_Geo, q_S_reeveref11_Slot, q_S_reeveref11_Thing, q_reeveref11_State, q_uint64, q_A4_uint64, q_thing_Thing, q_reeveref7_Cap, q_reeveref11_Slot, q_reeveref11_Thing, h21]
  refine dcall_spec k2.dom (law_ownOf a2 b2 c2 VS2 VT2 ss2 ts2 _ _ k2.dom ls2 lt2 (hs2.ext (k2.ext hdom)) (ht2.ext (k2.ext hdom))) (fun _ _ _ ⟨_, _, _, _, h⟩ => h) rfl (by simp (maxSteps := 1000000) (disch := first | assumption | omega | rfl | decide | simp only [fitsR, Bool.and_self]) [↓rules, rules, ↓rulesDp, rulesDq, lit_u64, Int.ofNat_inj]) fun r3 g3 n3 ⟨WS2, WT2, hr3, ⟨rS2, rT2⟩, q3⟩ => ?_
  subst hr3
  have k3 := k2.trans q3
  have l3 := q3.le
  have h30 : g3 n = some (rowS a1 b1 c1 VS1 VT1) := by rw [q3.same _ (by omega)]; exact h20
  simp (maxSteps := 1000000) (disch := first | assumption | omega | rfl | decide | simp only [fitsR, Bool.and_self]) [↓rules, rules, ↓rulesDp, rulesDq, lit_u64, Int.ofNat_inj, stops, q_int, q_bool, q_geo_Geo, q_S_state_Slot, q_S_thing_Thing, q_state_State, q_cap_Cap, q_state_Slot, q_reeveref1_Geo, q_S_reeveref11_Slot, q_S_reeveref11_Thing, q_reeveref11_State, q_uint64, q_A4_uint64, q_thing_Thing, q_reeveref7_Cap, q_reeveref11_Slot, q_reeveref11_Thing]
  refine dcall_quiet k3.dom rfl (ref_Same ⟨a1, b1, c1, ss1, ts1⟩ ⟨a2, b2, c2, ss2, ts2⟩ WS1 WT1 WS2 WT2 _ _ k3.dom ls1 lt1 ls2 lt2 (Gb_rd cS_len (Gb_kept rS1 q2.dom q3)) (Gb_rd cG_len (Gb_kept rT1 q2.dom q3)) (Gb_rd cS_len rS2) (Gb_rd cG_len rT2)) (by simp (maxSteps := 1000000) (disch := first | assumption | omega | rfl | decide | simp only [fitsR, Bool.and_self]) [↓rules, rules, ↓rulesDp, rulesDq, lit_u64, Int.ofNat_inj]) ?_
  have hbe : ∀ x : Bool, (x == x) = true := fun x => by simp
  simp (maxSteps := 1000000) (disch := first | assumption | omega | rfl | decide | simp only [fitsR, Bool.and_self]) [↓rules, rules, ↓rulesDp, rulesDq, lit_u64, Int.ofNat_inj, stops, q_int, q_bool, q_geo_Geo, q_S_state_Slot, q_S_thing_Thing, q_state_State, q_cap_Cap, q_state_Slot, q_reeveref1_Geo, q_S_reeveref11_Slot, q_S_reeveref11_Thing, q_reeveref11_State, q_uint64, q_A4_uint64, q_thing_Thing, q_reeveref7_Cap, q_reeveref11_Slot, q_reeveref11_Thing, bin_neq_bool tu_bool, hbe, h30]
  refine rcall_spec (state_Clone a1 b1 c1 VS1 VT1 ss1 ts1 _ _ k3.dom ls1 lt1 (hs1.ext (k3.ext hdom)) (ht1.ext (k3.ext hdom))) rfl (fun _ h => h.elim) rfl fun r4 g4 n4 ⟨CS, CT, m4, hr4, ⟨rS4, rT4, lm4, ap4⟩, q4⟩ => ?_
  subst hr4
  have k4 := k3.trans q4
  have l4 := q4.le
  have h40 : g4 n = some (rowS a1 b1 c1 VS1 VT1) := by rw [q4.same _ (by omega)]; exact h30
  have hcS : cellOk CS = true := by obtain ⟨pa, pe, h⟩ := (Gb_rd cS_len rS4).form; rw [h]; rfl
  have hcT : cellOk CT = true := by obtain ⟨pa, pe, h⟩ := (Gb_rd cG_len rT4).form; rw [h]; rfl
  obtain ⟨xa, xe, hVS1⟩ := hs1.form
  obtain ⟨ya, ye, hCS⟩ := (Gb_rd cS_len rS4).form
  have k5 := k4.new (rowS a1 b1 c1 CS CT)
  have h50 : gset g4 n4 (some (rowS a1 b1 c1 CS CT)) n = some (rowS a1 b1 c1 VS1 VT1) := by rw [gset, if_neg (by omega)]; exact h40
  have h57 : gset g4 n4 (some (rowS a1 b1 c1 CS CT)) n4 = some (rowS a1 b1 c1 CS CT) := by simp [gset]
  have rS5 := Gb_new (some (rowS a1 b1 c1 CS CT)) rS4 q4.dom
  have rT5 := Gb_new (some (rowS a1 b1 c1 CS CT)) rT4 q4.dom
  simp (maxSteps := 1000000) (disch := first | assumption | omega | rfl | decide | simp only [fitsR, Bool.and_self]) [↓rules, rules, ↓rulesDp, rulesDq, lit_u64, Int.ofNat_inj, stops, q_int, q_bool, q_geo_Geo, q_S_state_Slot, q_S_thing_Thing, q_state_State, q_cap_Cap, q_state_Slot, q_reeveref1_Geo, q_S_reeveref11_Slot, q_S_reeveref11_Thing, q_reeveref11_State, q_uint64, q_A4_uint64, q_thing_Thing, q_reeveref7_Cap, q_reeveref11_Slot, q_reeveref11_Thing, hcS, hcT]
  refine ⟨by omega, ?_⟩
  have hself : sameSt (⟨a1, b1, c1, ss1, ts1⟩ : St) ⟨a1, b1, c1, ss1, ts1⟩ = true := sameSt_iff.2 rfl
  have h40' := h40
  rw [hVS1] at h40'
  by_cases d1 : i < 0
  · simp (maxSteps := 1000000) (disch := first | assumption | omega | rfl | decide | simp only [fitsR, Bool.and_self]) [↓rules, rules, ↓rulesDp, rulesDq, lit_u64, Int.ofNat_inj, stops, q_int, q_bool, q_geo_Geo, q_S_state_Slot, q_S_thing_Thing, q_state_State, q_cap_Cap, q_state_Slot, q_reeveref1_Geo, q_S_reeveref11_Slot, q_S_reeveref11_Thing, q_reeveref11_State, q_uint64, q_A4_uint64, q_thing_Thing, q_reeveref7_Cap, q_reeveref11_Slot, q_reeveref11_Thing, d1, h40]
    refine rcall_quiet rfl (state_Same ⟨a1, b1, c1, ss1, ts1⟩ ⟨a1, b1, c1, ss1, ts1⟩ CS CT VS1 VT1 _ _ k5.dom ls1 lt1 ls1 lt1 (Gb_rd cS_len rS5) (Gb_rd cG_len rT5) (hs1.ext (k5.ext hdom)) (ht1.ext (k5.ext hdom))) ?_
    rw [hself]
    simp (maxSteps := 1000000) (disch := first | assumption | omega | rfl | decide | simp only [fitsR, Bool.and_self]) [↓rules, rules, ↓rulesDp, rulesDq, lit_u64, Int.ofNat_inj, stops, q_int, q_bool, q_geo_Geo, q_S_state_Slot, q_S_thing_Thing, q_state_State, q_cap_Cap, q_state_Slot, q_reeveref1_Geo, q_S_reeveref11_Slot, q_S_reeveref11_Thing, q_reeveref11_State, q_uint64, q_A4_uint64, q_thing_Thing, q_reeveref7_Cap, q_reeveref11_Slot, q_reeveref11_Thing]
    exact done_q hdom k5 rfl rfl
  by_cases d2 : (ss1.length : Int) ≤ i
  · simp (maxSteps := 1000000) (disch := first | assumption | omega | rfl | decide | simp only [fitsR, Bool.and_self]) [↓rules, rules, ↓rulesDp, rulesDq, lit_u64, Int.ofNat_inj, stops, q_int, q_bool, q_geo_Geo, q_S_state_Slot, q_S_thing_Thing, q_state_State, q_cap_Cap, q_state_Slot, q_reeveref1_Geo, q_S_reeveref11_Slot, q_S_reeveref11_Thing, q_reeveref11_State, q_uint64, q_A4_uint64, q_thing_Thing, q_reeveref7_Cap, q_reeveref11_Slot, q_reeveref11_Thing, d1, d2, hCS]
    rw [← hCS]
    simp (maxSteps := 1000000) (disch := first | assumption | omega | rfl | decide | simp only [fitsR, Bool.and_self]) [↓rules, rules, ↓rulesDp, rulesDq, lit_u64, Int.ofNat_inj, stops, q_int, q_bool, q_geo_Geo, q_S_state_Slot, q_S_thing_Thing, q_state_State, q_cap_Cap, q_state_Slot, q_reeveref1_Geo, q_S_reeveref11_Slot, q_S_reeveref11_Thing, q_reeveref11_State, q_uint64, q_A4_uint64, q_thing_Thing, q_reeveref7_Cap, q_reeveref11_Slot, q_reeveref11_Thing, h40]
    refine rcall_quiet rfl (state_Same ⟨a1, b1, c1, ss1, ts1⟩ ⟨a1, b1, c1, ss1, ts1⟩ CS CT VS1 VT1 _ _ k5.dom ls1 lt1 ls1 lt1 (Gb_rd cS_len rS5) (Gb_rd cG_len rT5) (hs1.ext (k5.ext hdom)) (ht1.ext (k5.ext hdom))) ?_
    rw [hself]
    simp (maxSteps := 1000000) (disch := first | assumption | omega | rfl | decide | simp only [fitsR, Bool.and_self]) [↓rules, rules, ↓rulesDp, rulesDq, lit_u64, Int.ofNat_inj, stops, q_int, q_bool, q_geo_Geo, q_S_state_Slot, q_S_thing_Thing, q_state_State, q_cap_Cap, q_state_Slot, q_reeveref1_Geo, q_S_reeveref11_Slot, q_S_reeveref11_Thing, q_reeveref11_State, q_uint64, q_A4_uint64, q_thing_Thing, q_reeveref7_Cap, q_reeveref11_Slot, q_reeveref11_Thing]
    exact done_q hdom k5 rfl rfl
  obtain ⟨q, rfl⟩ : ∃ q : Nat, i = q := ⟨i.toNat, by omega⟩
  have hq : q < ss1.length := by omega
  have d3 : (q : Int) < ss1.length := by omega
  obtain ⟨b1', o1, f1, _, f2⟩ := rd_big hs1 cS_len hq
  have hset := flat_set (IntKind.i64.wrap (ss1[q].up + 1)) ss1 q hq
  have hne := wrap_ne ss1[q].up
  rcases rS4 with ⟨_, hnil⟩ | ⟨bV, hbV, hbv, hgV⟩
  · rw [hnil] at hq; exact absurd hq (by simp)
  have hbm := k4.dom bV (by rw [hgV]; simp)
  have hbm4 := ap4 bV _ _ _ hbv
  have x0 : bV ≠ n4 := by omega
  have x1 : bV ≠ n4 + 1 := by omega
  have x2 : bV ≠ n := by omega
  subst hbv
  rw [f1] at h40
  have e1 := f2 _ (k5.ext hdom) Try.prog _ ta_state_Slot ts_state_Slot
  have hfl := flat_length cS_len ss1
  have hx5 : (cS ss1[q]).length = 5 := rfl
  have hxo : (cS ss1[q]).all cellOk = true := rfl
  have c5 : q * 5 + 4 + 1 ≤ ss1.length * 5 := by omega
  have c5' : q * 5 + 5 ≤ ss1.length * 5 := by omega
  have hnth : nth (ss1.flatMap cS) (q * 5 + 4) = some (.int .i64 ss1[q].up) := by
    obtain ⟨_, _, cs', _, g1', g2', g3', _, g5'⟩ := Rd.elem (Gb_rd cS_len (Or.inr ⟨bV, Nat.zero_le _, rfl, hgV⟩ : Gb 5 cS 0 g4 _ ss1)) cS_len hq
    simp only [Value.slice.injEq, Option.some.injEq, Addr.mk.injEq] at g1'
    obtain ⟨⟨rfl, rfl, _⟩, _⟩ := g1'
    rw [hgV] at g2'
    simp only [Option.some.injEq, AObj.row.injEq] at g2'
    obtain ⟨rfl, _⟩ := g2'
    have := g5' 4 (by omega)
    rw [Nat.zero_add] at this
    exact this.trans rfl
  have hsp : splice (ss1.flatMap cS) (q * 5 + 4) [.int .i64 (IntKind.i64.wrap (ss1[q].up + 1))] = (ss1.set q { ss1[q] with up := IntKind.i64.wrap (ss1[q].up + 1) }).flatMap cS := by
    rw [splice_one _ _ _ (by omega)]; exact hset
  generalize hx' : ({ ss1[q] with up := IntKind.i64.wrap (ss1[q].up + 1) } : Sl) = x' at *
  have hxne : ss1.set q x' ≠ ss1 := fun h => by
    have h2 : (ss1.set q x')[q]'(by simpa using hq) = ss1[q] := by congr 1
    rw [List.getElem_set_self] at h2
    have : x'.up = ss1[q].up := by rw [h2]
    rw [← hx'] at this
    exact hne this
  have hbad : sameSt (⟨a1, b1, c1, ss1, ts1⟩ : St) ⟨a1, b1, c1, ss1.set q x', ts1⟩ = false := by
    simp only [sameSt, decide_eq_false_iff_not, St.mk.injEq]
    intro h; exact hxne h.2.2.2.1.symm
  generalize hcs : ss1.flatMap cS = cs at *
  generalize hcs' : (ss1.set q x').flatMap cS = cs' at *
  have hq1 := fun xo yo => beq_state_Slot xo yo _ _ (fitsS ss1[q]) (fitsS ss1[q])
  rw [eqS, decide_eq_true rfl] at hq1
  have k7 : Kept g n (gset (gset (gset g4 n4 (some (rowS a1 b1 c1 (.slice (some ⟨bV, 0, none⟩) ss1.length 5) CT))) (n4 + 1) (some (.row (cS ss1[q]) true))) bV (some (.row cs' true))) (n4 + 1 + 1) := (by repeat first | exact k4 | refine Kept.new ?_ _ | refine Kept.drop ?_ (by omega) | refine Kept.put ?_ (by omega) (by omega) _ | refine Kept.skip ?_)
  have e7 := f2 _ (k7.ext hdom) Try.prog _ ta_state_Slot ts_state_Slot
  simp only [cS] at e1 e7 hq1
  simp (maxSteps := 1000000) (disch := first | assumption | omega | rfl | decide | simp only [fitsR, Bool.and_self]) [↓rules, rules, ↓rulesDp, rulesDq, lit_u64, Int.ofNat_inj, stops, q_int, q_bool, q_geo_Geo, q_S_state_Slot, q_S_thing_Thing, q_state_State, q_cap_Cap, q_state_Slot, q_reeveref1_Geo, q_S_reeveref11_Slot, q_S_reeveref11_Thing, q_reeveref11_State, q_uint64, q_A4_uint64, q_thing_Thing, q_reeveref7_Cap, q_reeveref11_Slot, q_reeveref11_Thing, d1, d2, d3, h40, e1, hgV, x0, x1, x2, hfl, c5, c5', hnth, hsp, e7, hq1]
  rw [← f1]
  refine ⟨by omega, by omega, ?_⟩
  refine rcall_quiet rfl (state_Same ⟨a1, b1, c1, ss1, ts1⟩ ⟨a1, b1, c1, ss1.set q x', ts1⟩ VS1 VT1 (.slice (some ⟨bV, 0, none⟩) ss1.length 5) CT _ _ k7.dom ls1 lt1 (by show (ss1.set q x').length ≤ 100000; rw [List.length_set]; exact ls1) lt1 (hs1.ext (k7.ext hdom)) (ht1.ext (k7.ext hdom))
    (Gb_rd cS_len (Or.inr ⟨bV, Nat.zero_le _, by show _ = Value.slice _ (ss1.set q x').length 5; rw [List.length_set], by show gset _ bV _ bV = some (.row ((ss1.set q x').flatMap cS) true); rw [hcs']; simp [gset]⟩ : Gb 5 cS 0 _ _ (ss1.set q x')))
    (Gb_rd cG_len (Gb_put _ (Gb_new _ (Gb_new _ rT4 q4.dom) k5.dom) hbm4 (Nat.le_refl _)))) ?_
  rw [hbad]
  simp (maxSteps := 1000000) (disch := first | assumption | omega | rfl | decide | simp only [fitsR, Bool.and_self]) [↓rules, rules, ↓rulesDp, rulesDq, lit_u64, Int.ofNat_inj, stops, q_int, q_bool, q_geo_Geo, q_S_state_Slot, q_S_thing_Thing, q_state_State, q_cap_Cap, q_state_Slot, q_reeveref1_Geo, q_S_reeveref11_Slot, q_S_reeveref11_Thing, q_reeveref11_State, q_uint64, q_A4_uint64, q_thing_Thing, q_reeveref7_Cap, q_reeveref11_Slot, q_reeveref11_Thing]
  exact done_q hdom k7 rfl rfl
end Go.Proofs.Ytkcahnefekkfaaa.F12S

namespace Go.Proofs.Ytkcahnefekkfaaa.F12S
open Go Go.Proofs Go.Proofs.YtkcahnefekkfaaaAbs
variable [Base]
set_option maxRecDepth 100000
/-! States among the arguments. -/
theorem kindSl : ckinds Try.prog 9 T_state_Slot = some [.flat (.int .i64), .flat (.int .i64), .flat (.int .i64), .flat (.int .i64), .flat (.int .i64)] := by kernel_rfl
theorem cellsSl : Try.prog.cellsOf T_state_Slot = 5 := by kernel_rfl
theorem kindTg : ckinds Try.prog 9 T_thing_Thing = some [.flat (.int .i64), .flat (.int .i64), .flat (.int .i64), .flat (.int .i64), .flat (.int .i64), .flat (.int .i64), .flat (.int .i64), .flat .bool, .flat (.int .u64), .flat (.int .u64), .flat (.int .u64), .flat (.int .u64), .flat (.int .u64)] := by kernel_rfl
theorem cellsTg : Try.prog.cellsOf T_thing_Thing = 13 := by kernel_rfl
theorem decSl {H : Type} {enc : TypeId × Value → H} {W : World} : ∀ c, Cells enc Try.prog W [.flat (.int .i64), .flat (.int .i64), .flat (.int .i64), .flat (.int .i64), .flat (.int .i64)] c → ∃ x : Sl, cS x = c ∧ True := fun c h => by
  have hl := h.len
  simp only [List.length_cons, List.length_nil] at hl
  match c, hl, h with
  | [c0, c1, c2, c3, c4], _, h =>
    obtain ⟨x0, h0, _⟩ := LK.i64 (h.at_ 0 (by simp) (by simp))
    obtain ⟨x1, h1, _⟩ := LK.i64 (h.at_ 1 (by simp) (by simp))
    obtain ⟨x2, h2, _⟩ := LK.i64 (h.at_ 2 (by simp) (by simp))
    obtain ⟨x3, h3, _⟩ := LK.i64 (h.at_ 3 (by simp) (by simp))
    obtain ⟨x4, h4, _⟩ := LK.i64 (h.at_ 4 (by simp) (by simp))
    simp only [List.getElem_cons_zero, List.getElem_cons_succ] at h0 h1 h2 h3 h4
    subst h0 h1 h2 h3 h4
    exact ⟨⟨x0, x1, x2, x3, x4⟩, rfl, trivial⟩
theorem decTg {H : Type} {enc : TypeId × Value → H} {W : World} : ∀ c, Cells enc Try.prog W [.flat (.int .i64), .flat (.int .i64), .flat (.int .i64), .flat (.int .i64), .flat (.int .i64), .flat (.int .i64), .flat (.int .i64), .flat .bool, .flat (.int .u64), .flat (.int .u64), .flat (.int .u64), .flat (.int .u64), .flat (.int .u64)] c → ∃ x : Tg, cG x = c ∧ True := fun c h => by
  have hl := h.len
  simp only [List.length_cons, List.length_nil] at hl
  match c, hl, h with
  | [c0, c1, c2, c3, c4, c5, c6, c7, c8, c9, c10, c11, c12], _, h =>
    obtain ⟨x0, h0, _⟩ := LK.i64 (h.at_ 0 (by simp) (by simp))
    obtain ⟨x1, h1, _⟩ := LK.i64 (h.at_ 1 (by simp) (by simp))
    obtain ⟨x2, h2, _⟩ := LK.i64 (h.at_ 2 (by simp) (by simp))
    obtain ⟨x3, h3, _⟩ := LK.i64 (h.at_ 3 (by simp) (by simp))
    obtain ⟨x4, h4, _⟩ := LK.i64 (h.at_ 4 (by simp) (by simp))
    obtain ⟨x5, h5, _⟩ := LK.i64 (h.at_ 5 (by simp) (by simp))
    obtain ⟨x6, h6, _⟩ := LK.i64 (h.at_ 6 (by simp) (by simp))
    have h7 : LK.bool.is c7 := h.at_ 7 (by simp) (by simp)
    obtain ⟨x7, h7⟩ := h7
    obtain ⟨x8, h8⟩ := LK.u64 (h.at_ 8 (by simp) (by simp))
    obtain ⟨x9, h9⟩ := LK.u64 (h.at_ 9 (by simp) (by simp))
    obtain ⟨x10, h10⟩ := LK.u64 (h.at_ 10 (by simp) (by simp))
    obtain ⟨x11, h11⟩ := LK.u64 (h.at_ 11 (by simp) (by simp))
    obtain ⟨x12, h12⟩ := LK.u64 (h.at_ 12 (by simp) (by simp))
    simp only [List.getElem_cons_zero, List.getElem_cons_succ] at h0 h1 h2 h3 h4 h5 h6 h8 h9 h10 h11 h12
    subst h0 h1 h2 h3 h4 h5 h6 h7 h8 h9 h10 h11 h12
    exact ⟨⟨x0, x1, x2, x3, x4, x5, x6, x7, x8, x9, x10, x11, x12⟩, rfl, trivial⟩
theorem decState {H : Type} {enc : TypeId × Value → H} {W : World} : ∀ c, Cells enc Try.prog W [.flat (.int .i64), .flat (.int .i64), .flat (.int .i64), .slice T_state_Slot, .slice T_thing_Thing] c →
    ∃ (a b d : Int) (VS : Value) (ss : List Sl) (VT : Value) (ts : List Tg), VRel (idR W) (szOf W) (sv a b d VS VT) (.agg c.toArray) ∧ rdS (heapView W) VS ss ∧ rdG (heapView W) VT ts := fun c h => by
  have hl := h.len
  simp only [List.length_cons, List.length_nil] at hl
  match c, hl, h with
  | [c0, c1, c2, c3, c4], _, h =>
    obtain ⟨x0, h0, _⟩ := LK.i64 (h.at_ 0 (by simp) (by simp))
    obtain ⟨x1, h1, _⟩ := LK.i64 (h.at_ 1 (by simp) (by simp))
    obtain ⟨x2, h2, _⟩ := LK.i64 (h.at_ 2 (by simp) (by simp))
    have h3 : (CK.slice T_state_Slot).is enc Try.prog W c3 := h.at_ 3 (by simp) (by simp)
    have h4 : (CK.slice T_thing_Thing).is enc Try.prog W c4 := h.at_ 4 (by simp) (by simp)
    simp only [List.getElem_cons_zero, List.getElem_cons_succ] at h0 h1 h2
    obtain ⟨r3, ss, hr3, _, _⟩ := rd_of_slice (enc := cS) (good := fun _ => True) (e := 5) kindSl (by simp) rfl cellsSl (by decide) decSl h3
    obtain ⟨r4, ts, hr4, _, _⟩ := rd_of_slice (enc := cG) (good := fun _ => True) (e := 13) kindTg (by simp) rfl cellsTg (by decide) decTg h4
    subst h0 h1 h2
    refine ⟨x0, x1, x2, absV Try.prog (.slice T_state_Slot) c3, ss, absV Try.prog (.slice T_thing_Thing) c4, ts, .agg' ?_, hr3, hr4⟩
    exact VRs.cons' (.int _ _) (VRs.cons' (.int _ _) (VRs.cons' (.int _ _) (VRs.cons' r3 (VRs.cons' r4 (VRs.nil _ _)))))
end Go.Proofs.Ytkcahnefekkfaaa.F12S
