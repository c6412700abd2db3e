/- Contracts of functions: what each one returns, and what it leaves. No statement is proved here. -/
import Derived.Test.YtkcahnefekkfaaaP13Wa
set_option linter.unusedVariables false
set_option linter.unusedSimpArgs false
set_option linter.unusedSectionVars false
namespace Go.Proofs.Ytkcahnefekkfaaa.F13W
open Go Go.Proofs Go.Proofs.YtkcahnefekkfaaaAbs
variable [Base]
set_option maxHeartbeats 8000000
set_option maxRecDepth 100000
/-! ### What nodes have -/
theorem markF_in (hd : List Bool) (b : Nat) : ∀ (k : Nat) (h : List Bool), markF hd b k = some h → 0 < k → b + k ≤ hd.length
  | 0, h, e, h0 => by omega
  | k + 1, h, e, _ => by
    rw [markF] at e
    obtain ⟨h0, e1, e2⟩ := Option.bind_eq_some_iff.1 e
    have hl := markF_len hd b k h0 e1
    split at e2
    · cases e2
    · rename_i hc
      by_cases c : b + k < h0.length
      · omega
      · rw [List.getD_eq_getElem?_getD, List.getElem?_eq_none (by omega)] at hc
        exact absurd rfl hc
theorem nodesH_in (t : Tg) (h2 : t.ty = 2) : ∀ (ts : List Tg) (o h : List Bool), ts.foldl nodeStep (some o) = some h → t ∈ ts → t.base.toNat + 2 ^ t.bits.toNat ≤ o.length
  | [], o, h, e, hm => nomatch hm
  | x :: ts, o, h, e, hm => by
    rw [List.foldl_cons] at e
    cases e1 : nodeStep (some o) x with
    | none =>
      rw [e1] at e
      have : ∀ l : List Tg, l.foldl nodeStep none = none := fun l => by induction l with | nil => rfl | cons x l ih => exact ih
      rw [this] at e; cases e
    | some o' =>
      rw [e1] at e
      simp only [nodeStep, Option.bind_some] at e1
      rcases List.mem_cons.1 hm with hx | hx
      · subst hx
        rw [if_pos h2] at e1
        exact markF_in _ _ _ _ e1 (Nat.two_pow_pos _)
      · have := nodesH_in t h2 ts o' h e hx
        split at e1
        · rw [markF_len _ _ _ _ e1] at this; exact this
        · cases e1; exact this
theorem nodesS_in {ss : List Sl} {ts : List Tg} (h : nodesS ss ts = true) {t : Tg} (ht : t ∈ ts) (h2 : t.ty = 2) : t.base.toNat + 2 ^ t.bits.toNat ≤ ss.length := by
  unfold nodesS nodesH at h
  split at h
  · cases h
  · rename_i x e
    have := nodesH_in t h2 ts _ x e ht
    rwa [List.length_replicate] at this
/-! ### Steps -/
def stepS (t : Tg) (s : Int) : Int := if ((2 ^ t.bits.toNat : Nat) : Int) ≤ s then -1 else t.base + s
theorem stepS_in {ss : List Sl} {ts : List Tg} {t : Tg} (h : nodesS ss ts = true) (hb : nodeIn t) (ht : t ∈ ts) (h2 : t.ty = 2) {s : Int} (h0 : 0 ≤ s) : stepS t s = -1 ∨ (0 ≤ stepS t s ∧ stepS t s < ss.length) := by
  have h3 := nodesS_in h ht h2
  obtain ⟨b0, b1, _⟩ := hb h2
  unfold stepS
  generalize 2 ^ t.bits.toNat = M at *
  split
  · exact Or.inl rfl
  · right; omega
theorem find_step (t : Tg) (s : Int) (g : AMem) (n : Nat) (hb : nodeIn t) (h2 : t.ty = 2) (hs0 : 0 ≤ s) (hs1 : s ≤ 100000) : FnC Try.prog f_find_step [.agg (cG t).toArray, .int .i64 s] g n (fun _ => False) (.int .i64 (stepS t s)) g n := by
  refine fnC_of_rwp t_find_step hm rfl fun hdom => ?_
  obtain ⟨p0, p1, p2, p3⟩ := hb h2
  unfold stepS
  obtain ⟨ty, bits, base, size, used, frm, badge, full, word, d0, d1, d2, d3⟩ := t
  simp only [cG]
  dsimp only at *
  have hs2 := fun (ty : TypeId) (xo yo : Operand) => bin_shl (P := Try.prog) (t := ty) (xo := xo) (yo := yo) (k := .i64) (k' := .i64) (a := 1) p2
  rw [shl_bits p2 p3] at hs2
  obtain ⟨M, hM⟩ : ∃ M : Nat, M = 2 ^ bits.toNat := ⟨_, rfl⟩
  have h16 : M ≤ 16 := by rw [hM]; exact Nat.pow_le_pow_right (n := 2) (j := 4) (by omega) (by omega)
  rw [← hM] at hs2 ⊢
  have w0 : IntKind.i64.wrap (base + s) = base + s := wrap_i64 (by omega) (by omega)
  by_cases c : (M : Int) ≤ s
  · rw [if_pos c]
    simp (maxSteps := 1000000) (disch := first | assumption | omega | rfl | decide | simp only [fitsR, Bool.and_self]) [↓rules, rules, ↓rulesDp, rulesDq, lit_u64, Int.ofNat_inj, stops, rc_find_step, q_int, q_bool, q_uint64, q_A4_uint64, q_thing_Thing, hs2, c]
    exact done_q hdom (by repeat first | exact Kept.refl hdom | refine Kept.new ?_ _ | refine Kept.drop ?_ (by omega) | refine Kept.put ?_ (by omega) (by omega) _ | refine Kept.skip ?_) rfl rfl
  · rw [if_neg c]
    simp (maxSteps := 1000000) (disch := first | assumption | omega | rfl | decide | simp only [fitsR, Bool.and_self]) [↓rules, rules, ↓rulesDp, rulesDq, lit_u64, Int.ofNat_inj, stops, rc_find_step, q_int, q_bool, q_uint64, q_A4_uint64, q_thing_Thing, hs2, c, w0]
    exact done_q hdom (by repeat first | exact Kept.refl hdom | refine Kept.new ?_ _ | refine Kept.drop ?_ (by omega) | refine Kept.put ?_ (by omega) (by omega) _ | refine Kept.skip ?_) rfl rfl
theorem find_in (x lo hi : Int) (g : AMem) (n : Nat) : FnC Try.prog f_find_in [.int .i64 x, .int .i64 lo, .int .i64 hi] g n (fun _ => False) (.bool (decide (lo ≤ x ∧ x ≤ hi))) g n := by
  refine fnC_of_rwp t_find_in hm rfl fun hdom => ?_
  by_cases c1 : lo ≤ x
  case neg =>
    rw [decide_eq_false (by omega)]
    simp (maxSteps := 1000000) (disch := first | assumption | omega | rfl | decide | simp only [fitsR, Bool.and_self]) [↓rules, rules, ↓rulesDp, rulesDq, lit_u64, Int.ofNat_inj, stops, rc_find_in, q_int, q_bool, c1]
    exact done_q hdom (by repeat first | exact Kept.refl hdom | refine Kept.new ?_ _ | refine Kept.drop ?_ (by omega) | refine Kept.put ?_ (by omega) (by omega) _ | refine Kept.skip ?_) rfl rfl
  by_cases c2 : x ≤ hi
  · rw [decide_eq_true (by omega)]
    simp (maxSteps := 1000000) (disch := first | assumption | omega | rfl | decide | simp only [fitsR, Bool.and_self]) [↓rules, rules, ↓rulesDp, rulesDq, lit_u64, Int.ofNat_inj, stops, rc_find_in, q_int, q_bool, c1, c2]
    exact done_q hdom (by repeat first | exact Kept.refl hdom | refine Kept.new ?_ _ | refine Kept.drop ?_ (by omega) | refine Kept.put ?_ (by omega) (by omega) _ | refine Kept.skip ?_) rfl rfl
  · rw [decide_eq_false (by omega)]
    simp (maxSteps := 1000000) (disch := first | assumption | omega | rfl | decide | simp only [fitsR, Bool.and_self]) [↓rules, rules, ↓rulesDp, rulesDq, lit_u64, Int.ofNat_inj, stops, rc_find_in, q_int, q_bool, c1, c2]
    exact done_q hdom (by repeat first | exact Kept.refl hdom | refine Kept.new ?_ _ | refine Kept.drop ?_ (by omega) | refine Kept.put ?_ (by omega) (by omega) _ | refine Kept.skip ?_) rfl rfl
/-- The node that a slot leads through. -/
def throughS (ss : List Sl) (ts : List Tg) (k : Int) : Option Tg := if (slAt ss k).ty = 2 ∧ lessR 1 (slAt ss k).ri = 0 then some (tgAt ts (slAt ss k).th) else none
theorem throughS_in {ss : List Sl} {ts : List Tg} (h : ss.all (capOk ts) = true) {k : Nat} (hk : k < ss.length) {t : Tg} (ht : throughS ss ts k = some t) : t ∈ ts ∧ t.ty = 2 := by
  have h1 := List.all_eq_true.1 h _ (List.getElem_mem hk)
  unfold throughS at ht
  rw [slAt_nat hk] at ht
  split at ht
  · rename_i hc
    cases ht
    simp only [capOk, Bool.and_eq_true] at h1
    have h2 := h1.2
    rw [if_neg (by simp only [noneS, noneC, decide_eq_true_eq]; omega), Bool.and_eq_true, Bool.and_eq_true] at h2
    have h3 := h2.2.1
    simp only [thereS, decide_eq_true_eq] at h3
    obtain ⟨q, hq⟩ : ∃ q : Nat, ss[k].th = q := ⟨ss[k].th.toNat, by omega⟩
    rw [hq] at h3 ⊢
    have hq2 : q < ts.length := by omega
    rw [tgAt_nat hq2]
    refine ⟨List.getElem_mem hq2, ?_⟩
    have h4 := of_decide_eq_true h2.2.2
    rw [hq, tgAt_nat hq2] at h4
    exact h4.trans hc.1
  · cases ht
def thrV (o : Option Tg) : Value := .tuple #[.agg (cG (o.getD noTg)).toArray, .bool o.isSome]
theorem find_through (a b c : Int) (VS VT : Value) (ss : List Sl) (ts : List Tg) (k : Nat) (g : AMem) (n : Nat) (hk : k < ss.length) (hc : ss.all (capOk ts) = true) (hs : rdS g VS ss) (ht : rdG g VT ts) :
    FnC Try.prog f_find_through [sv a b c VS VT, .int .i64 k] g n (fun _ => False) (thrV (throughS ss ts k)) g n := by
  refine fnC_of_rwp t_find_through hm rfl fun hdom => ?_
  have h1 := List.all_eq_true.1 hc _ (List.getElem_mem hk)
  simp only [capOk, Bool.and_eq_true] at h1
  have h2 := h1.2
  obtain ⟨xa, xe, hVS⟩ := hs.form
  obtain ⟨ya, ye, hVT⟩ := ht.form
  obtain ⟨b1, o1, f1, f2⟩ := rd_slot hs hk
  have k1 : Kept g n (gset (gset g n (some (rowS a b c VS VT))) (n + 1) (some (.row (cG noTg) true))) (n + 1 + 1) := (by repeat first | exact Kept.refl hdom | refine Kept.new ?_ _ | refine Kept.drop ?_ (by omega) | refine Kept.put ?_ (by omega) (by omega) _ | refine Kept.skip ?_)
  have r0 : gset (gset g n (some (rowS a b c VS VT))) (n + 1) (some (.row (cG noTg) true)) n = some (rowS a b c VS VT) := by simp [gset]
  have r1 : gset (gset g n (some (rowS a b c VS VT))) (n + 1) (some (.row (cG noTg) true)) (n + 1) = some (.row (cG noTg) true) := by simp [gset]
  simp (maxSteps := 1000000) (disch := first | assumption | omega | rfl | decide | simp only [fitsR, Bool.and_self]) [↓rules, rules, ↓rulesDp, rulesDq, lit_u64, Int.ofNat_inj, stops, rc_find_through, q_int, q_bool, q_geo_Geo, q_S_state_Slot, q_S_thing_Thing, q_state_State, q_cap_Cap, q_state_Slot, q_uint64, q_A4_uint64, q_thing_Thing]
  simp only [cG, noTg] at k1 r0 r1
  generalize gset (gset g n _) (n + 1) _ = G at *
  have e1 := (f2 _ (k1.ext hdom)).1 Try.prog _ ta_cap_Cap ts_cap_Cap
  have hlt : (k : Int) < ss.length := by omega
  unfold throughS
  rw [slAt_nat hk]
  generalize hx : ss[k] = x at *
  obtain ⟨ty, th, ri, ba, up⟩ := x
  dsimp only at *
  rw [f1]
  by_cases c1 : ty = 2
  case neg =>
    rw [if_neg (by omega)]
    simp (maxSteps := 1000000) (disch := first | assumption | omega | rfl | decide | simp only [fitsR, Bool.and_self]) [↓rules, rules, ↓rulesDp, rulesDq, lit_u64, Int.ofNat_inj, stops, q_int, q_bool, q_geo_Geo, q_S_state_Slot, q_S_thing_Thing, q_state_State, q_cap_Cap, q_state_Slot, q_uint64, q_A4_uint64, q_thing_Thing, hlt, e1, c1, r1]
    refine ⟨by omega, ?_⟩
    refine done_q hdom (by repeat first | exact k1 | refine Kept.new ?_ _ | refine Kept.drop ?_ (by omega) | refine Kept.put ?_ (by omega) (by omega) _ | refine Kept.skip ?_) rfl ?_
    simp (maxSteps := 1000000) (disch := first | assumption | omega | rfl | decide | simp only [fitsR, Bool.and_self]) [↓rules, rules, ↓rulesDp, rulesDq, lit_u64, Int.ofNat_inj, aResults, aRes, q_int, q_bool, q_geo_Geo, q_S_state_Slot, q_S_thing_Thing, q_state_State, q_cap_Cap, q_state_Slot, q_uint64, q_A4_uint64, q_thing_Thing, thrV, cG, noTg]
  subst c1
  simp (maxSteps := 1000000) (disch := first | assumption | omega | rfl | decide | simp only [fitsR, Bool.and_self]) [↓rules, rules, ↓rulesDp, rulesDq, lit_u64, Int.ofNat_inj, stops, q_int, q_bool, q_geo_Geo, q_S_state_Slot, q_S_thing_Thing, q_state_State, q_cap_Cap, q_state_Slot, q_uint64, q_A4_uint64, q_thing_Thing, hlt, e1]
  refine ⟨by omega, ?_⟩
  refine rcall_quiet rfl (right_Within 1 ri _ _) ?_
  by_cases c2 : lessR 1 ri = 0
  case neg =>
    rw [if_neg c2, decide_eq_false c2]
    simp (maxSteps := 1000000) (disch := first | assumption | omega | rfl | decide | simp only [fitsR, Bool.and_self]) [↓rules, rules, ↓rulesDp, rulesDq, lit_u64, Int.ofNat_inj, stops, q_int, q_bool, q_geo_Geo, q_S_state_Slot, q_S_thing_Thing, q_state_State, q_cap_Cap, q_state_Slot, q_uint64, q_A4_uint64, q_thing_Thing, r1]
    refine done_q hdom (by repeat first | exact k1 | refine Kept.new ?_ _ | refine Kept.drop ?_ (by omega) | refine Kept.put ?_ (by omega) (by omega) _ | refine Kept.skip ?_) rfl ?_
    simp (maxSteps := 1000000) (disch := first | assumption | omega | rfl | decide | simp only [fitsR, Bool.and_self]) [↓rules, rules, ↓rulesDp, rulesDq, lit_u64, Int.ofNat_inj, aResults, aRes, q_int, q_bool, q_geo_Geo, q_S_state_Slot, q_S_thing_Thing, q_state_State, q_cap_Cap, q_state_Slot, q_uint64, q_A4_uint64, q_thing_Thing, thrV, cG, noTg]
  rw [if_pos c2, decide_eq_true c2]
  rw [if_neg (by simp only [noneS, noneC, decide_eq_true_eq]; omega), Bool.and_eq_true, Bool.and_eq_true] at h2
  have h3 := h2.2.1
  simp only [thereS, decide_eq_true_eq] at h3
  obtain ⟨q, rfl⟩ : ∃ q : Nat, th = q := ⟨th.toNat, by omega⟩
  have hq2 : q < ts.length := by omega
  have hlt2 : (q : Int) < ts.length := by omega
  obtain ⟨b3, o3, f3, _, f4⟩ := rd_big ht cG_len hq2
  rw [tgAt_nat hq2]
  have k2 : Kept g n (gset G (n + 1 + 1) (some (.row [.int .i64 2, .int .i64 q, .int .i64 ri, .int .i64 ba] true))) (n + 1 + 1 + 1) := (by repeat first | exact k1 | refine Kept.new ?_ _ | refine Kept.drop ?_ (by omega) | refine Kept.put ?_ (by omega) (by omega) _ | refine Kept.skip ?_)
  have e4 := f4 _ (k2.ext hdom) Try.prog _ ta_thing_Thing ts_thing_Thing
  have r2 : gset G (n + 1 + 1) (some (.row [.int .i64 2, .int .i64 q, .int .i64 ri, .int .i64 ba] true)) n = some (rowS a b c VS VT) := by rw [gset, if_neg (by omega)]; exact r0
  have r3 : gset G (n + 1 + 1) (some (.row [.int .i64 2, .int .i64 q, .int .i64 ri, .int .i64 ba] true)) (n + 1 + 1) = some (.row [.int .i64 2, .int .i64 q, .int .i64 ri, .int .i64 ba] true) := by simp [gset]
  have r4 : gset G (n + 1 + 1) (some (.row [.int .i64 2, .int .i64 q, .int .i64 ri, .int .i64 ba] true)) (n + 1) = G (n + 1) := by simp [gset]
  rw [r1] at r4
  generalize gset G (n + 1 + 1) _ = G2 at *
  rw [f3] at r2
  generalize hy : ts[q] = y at *
  obtain ⟨ty', bits, base, size, used, frm, badge, full, word, d0, d1, d2, d3⟩ := y
  simp only [cG] at e4
  simp (maxSteps := 1000000) (disch := first | assumption | omega | rfl | decide | simp only [fitsR, Bool.and_self]) [↓rules, rules, ↓rulesDp, rulesDq, lit_u64, Int.ofNat_inj, stops, q_int, q_bool, q_geo_Geo, q_S_state_Slot, q_S_thing_Thing, q_state_State, q_cap_Cap, q_state_Slot, q_uint64, q_A4_uint64, q_thing_Thing, r2, r3, r4, hlt2, e4]
  refine done_q hdom (by repeat first | exact k2 | refine Kept.new ?_ _ | refine Kept.drop ?_ (by omega) | refine Kept.put ?_ (by omega) (by omega) _ | refine Kept.skip ?_) rfl ?_
  simp (maxSteps := 1000000) (disch := first | assumption | omega | rfl | decide | simp only [fitsR, Bool.and_self]) [↓rules, rules, ↓rulesDp, rulesDq, lit_u64, Int.ofNat_inj, aResults, aRes, q_int, q_bool, q_geo_Geo, q_S_state_Slot, q_S_thing_Thing, q_state_State, q_cap_Cap, q_state_Slot, q_uint64, q_A4_uint64, q_thing_Thing, thrV, cG]
end Go.Proofs.Ytkcahnefekkfaaa.F13W

namespace Go.Proofs.Ytkcahnefekkfaaa.F13W
open Go Go.Proofs Go.Proofs.YtkcahnefekkfaaaAbs
variable [Base]
set_option maxHeartbeats 8000000
set_option maxRecDepth 100000
/-- Where steps lead, out of a node (or none). -/
def goV (ss : List Sl) (ts : List Tg) : Option Tg → Int → List Int → Int × Int
  | _, k, [] => (k, 0)
  | none, _, _ :: _ => (0, 3)
  | some t, _, x :: l => if stepS t x < 0 then (0, 3) else goV ss ts (throughS ss ts (stepS t x)) (stepS t x) l
def slotV (a : Int) (ss : List Sl) (ts : List Tg) (th : Int) (l : List Int) : Int × Int := if (0 ≤ th ∧ th ≤ a - 1) ∧ goodP l = true then goV ss ts (some (tgAt ts (2 + th))) 0 l else (0, 1)
theorem goodG_a {a b c : Int} (h : goodG a b c = true) : 1 ≤ a ∧ a ≤ 4 ∧ 2 + a ≤ c := by
  have := goodG_iff.1 h
  omega
theorem root_node {a b c : Int} {ss : List Sl} {ts : List Tg} (h : goodS a b c ss ts = true) {q : Nat} (hq : (q : Int) < a) : ∃ h : 2 + q < ts.length, ts[2 + q].ty = 2 := by
  obtain ⟨hg, _, hc, _, hth, _⟩ := goodS_parts h
  obtain ⟨g1, g2, g3⟩ := goodG_a hg
  have hl : 2 + q < ts.length := by omega
  have h1 := List.all_eq_true.1 hth (2 + q) (List.mem_range.2 hl)
  rw [tgAt_nat hl] at h1
  simp only [thOk, Bool.and_eq_true] at h1
  have h2 := h1.2.2
  rw [if_pos (by omega), decide_eq_true_eq] at h2
  exact ⟨hl, by rw [h2]; rfl⟩
theorem goV_in {a b c : Int} {ss : List Sl} {ts : List Tg} (h : goodS a b c ss ts = true) : ∀ (l : List Int) (o : Option Tg) (k : Int), (∀ t, o = some t → t ∈ ts ∧ t.ty = 2) → (∀ x, x ∈ l → 0 ≤ x) → l ≠ [] ∨ (0 ≤ k ∧ k < ss.length) → (goV ss ts o k l).2 = 0 → 0 ≤ (goV ss ts o k l).1 ∧ (goV ss ts o k l).1 < ss.length
  | [], o, k, ho, hx, hk, he => by
    rw [goV]
    rcases hk with hk | hk
    · exact absurd rfl hk
    · exact hk
  | x :: l, none, k, ho, hx, hk, he => by
    rw [goV] at he; exact absurd he (by decide)
  | x :: l, some t, k, ho, hx, hk, he => by
    obtain ⟨_, _, _, hcap, hth, hno, _⟩ := goodS_parts h
    obtain ⟨h1, h2⟩ := ho t rfl
    rw [goV] at he ⊢
    split at he
    · exact absurd he (by decide)
    · rename_i hs
      rw [if_neg hs]
      rcases stepS_in hno (things_node hth t h1) h1 h2 (hx x List.mem_cons_self) with h3 | h3
      · omega
      obtain ⟨q, hq⟩ : ∃ q : Nat, stepS t x = q := ⟨(stepS t x).toNat, by omega⟩
      refine goV_in h l _ _ (fun u hu => ?_) (fun y hy => hx y (List.mem_cons_of_mem _ hy)) (Or.inr h3) he
      rw [hq] at hu h3
      exact throughS_in hcap (by omega) hu
theorem goodP_x {l : List Int} (h : goodP l = true) : 1 ≤ l.length ∧ l.length ≤ 3 ∧ ∀ x, x ∈ l → 0 ≤ x ∧ x ≤ 15 := by
  simp only [goodP, Bool.and_eq_true, decide_eq_true_eq, Bool.not_eq_true', List.any_eq_false] at h
  refine ⟨h.1.1, h.1.2, fun x hx => ?_⟩
  have := h.2 x hx
  simp only [oddS, decide_eq_true_eq] at this
  omega
theorem slotV_in {a b c : Int} {ss : List Sl} {ts : List Tg} (h : goodS a b c ss ts = true) {th : Int} {l : List Int} (he : (slotV a ss ts th l).2 = 0) : 0 ≤ (slotV a ss ts th l).1 ∧ (slotV a ss ts th l).1 < ss.length := by
  unfold slotV at he ⊢
  split at he
  · rename_i hc
    rw [if_pos hc]
    obtain ⟨q, rfl⟩ : ∃ q : Nat, th = q := ⟨th.toNat, by omega⟩
    obtain ⟨hl, h2⟩ := root_node h (q := q) (by omega)
    obtain ⟨p1, p2, p3⟩ := goodP_x hc.2
    refine goV_in h l _ _ (fun t ht => ?_) (fun x hx => (p3 x hx).1) (Or.inl (by rintro rfl; simp at p1)) he
    cases ht
    rw [show (2 : Int) + q = (2 + q : Nat) by omega, tgAt_nat hl]
    exact ⟨List.getElem_mem hl, h2⟩
  · exact absurd he (by decide)
theorem find_Slot (a b c : Int) (VS VT va : Value) (ss : List Sl) (ts : List Tg) (th : Int) (xs : List Int) (g : AMem) (n : Nat) (hl : ss.length ≤ 100000) (hl2 : ts.length ≤ 100000) (hlx : xs.length ≤ 100000) (hgd : goodS a b c ss ts = true) (hs : rdS g VS ss) (ht : rdG g VT ts) (hx : rdI g va xs) :
    FnC Try.prog f_find_Slot [sv a b c VS VT, .int .i64 th, pv va] g n (fun _ => False) (.tuple #[.int .i64 (slotV a ss ts th xs).1, .int .i64 (slotV a ss ts th xs).2]) g n := by
  refine fnC_of_rwp t_find_Slot hm rfl fun hdom => ?_
  obtain ⟨hg, _, hcl, hcap, hth, hno, _⟩ := goodS_parts hgd
  obtain ⟨g1, g2, g3⟩ := goodG_a hg
  have k1 : Kept g n (gset (gset g n (some (rowS a b c VS VT))) (n + 1) (some (.row [va] true))) (n + 1 + 1) := (by repeat first | exact Kept.refl hdom | refine Kept.new ?_ _ | refine Kept.drop ?_ (by omega) | refine Kept.put ?_ (by omega) (by omega) _ | refine Kept.skip ?_)
  have hs1 := hs.ext (k1.ext hdom)
  have ht1 := ht.ext (k1.ext hdom)
  have hx1 := hx.ext (k1.ext hdom)
  have r0 : gset (gset g n (some (rowS a b c VS VT))) (n + 1) (some (.row [va] true)) n = some (rowS a b c VS VT) := by simp [gset]
  have r1 : gset (gset g n (some (rowS a b c VS VT))) (n + 1) (some (.row [va] true)) (n + 1) = some (.row [va] true) := by simp [gset]
  simp (maxSteps := 1000000) (disch := first | assumption | omega | rfl | decide | simp only [fitsR, Bool.and_self]) [↓rules, rules, ↓rulesDp, rulesDq, lit_u64, Int.ofNat_inj, stops, rc_find_Slot, q_int, q_bool, q_geo_Geo, q_S_state_Slot, q_S_thing_Thing, q_state_State, q_cap_Cap, q_state_Slot, q_S_int, q_api_Errno, q_path_Path, q_uint64, q_A4_uint64, q_thing_Thing]
  generalize gset (gset g n (some (rowS a b c VS VT))) (n + 1) (some (.row [va] true)) = G at *
  refine rcall_quiet rfl (state_Good a b c VS VT ss ts _ _ hl hl2 hs1 ht1) ?_
  rw [hgd]
  unfold slotV
  have w0 : IntKind.i64.wrap (a - 1) = a - 1 := wrap_i64 (by omega) (by omega)
  simp (maxSteps := 1000000) (disch := first | assumption | omega | rfl | decide | simp only [fitsR, Bool.and_self]) [↓rules, rules, ↓rulesDp, rulesDq, lit_u64, Int.ofNat_inj, stops, q_int, q_bool, q_geo_Geo, q_S_state_Slot, q_S_thing_Thing, q_state_State, q_cap_Cap, q_state_Slot, q_S_int, q_api_Errno, q_path_Path, q_uint64, q_A4_uint64, q_thing_Thing, r0, w0]
  refine rcall_quiet rfl (find_in th 0 (a - 1) _ _) ?_
  by_cases c1 : 0 ≤ th ∧ th ≤ a - 1
  case neg =>
    rw [if_neg (by omega), decide_eq_false c1]
    simp (maxSteps := 1000000) (disch := first | assumption | omega | rfl | decide | simp only [fitsR, Bool.and_self]) [↓rules, rules, ↓rulesDp, rulesDq, lit_u64, Int.ofNat_inj, stops, q_int, q_bool, q_geo_Geo, q_S_state_Slot, q_S_thing_Thing, q_state_State, q_cap_Cap, q_state_Slot, q_S_int, q_api_Errno, q_path_Path, q_uint64, q_A4_uint64, q_thing_Thing]
    exact done_q hdom k1 rfl rfl
  rw [decide_eq_true c1]
  simp (maxSteps := 1000000) (disch := first | assumption | omega | rfl | decide | simp only [fitsR, Bool.and_self]) [↓rules, rules, ↓rulesDp, rulesDq, lit_u64, Int.ofNat_inj, stops, q_int, q_bool, q_geo_Geo, q_S_state_Slot, q_S_thing_Thing, q_state_State, q_cap_Cap, q_state_Slot, q_S_int, q_api_Errno, q_path_Path, q_uint64, q_A4_uint64, q_thing_Thing, r1]
  refine rcall_quiet rfl (path_Good va xs _ _ (by omega) hx1) ?_
  cases c2 : goodP xs
  · rw [if_neg (by simp)]
    simp (maxSteps := 1000000) (disch := first | assumption | omega | rfl | decide | simp only [fitsR, Bool.and_self]) [↓rules, rules, ↓rulesDp, rulesDq, lit_u64, Int.ofNat_inj, stops, q_int, q_bool, q_geo_Geo, q_S_state_Slot, q_S_thing_Thing, q_state_State, q_cap_Cap, q_state_Slot, q_S_int, q_api_Errno, q_path_Path, q_uint64, q_A4_uint64, q_thing_Thing]
    exact done_q hdom k1 rfl rfl
  rw [if_pos ⟨c1, rfl⟩]
  obtain ⟨q, rfl⟩ : ∃ q : Nat, th = q := ⟨th.toNat, by omega⟩
  obtain ⟨hql, hq2⟩ := root_node hgd (q := q) (by omega)
  obtain ⟨p1, p2, p3⟩ := goodP_x c2
  have w1 : IntKind.i64.wrap (2 + (q : Int)) = ((2 + q : Nat) : Int) := by rw [wrap_i64 (by omega) (by omega)]; omega
  rw [show (2 : Int) + q = (2 + q : Nat) by omega, tgAt_nat hql]
  obtain ⟨b3, o3, f3, _, f4⟩ := rd_big ht1 cG_len hql
  have e3 := f4 G (Ext.refl _) Try.prog _ ta_thing_Thing ts_thing_Thing
  obtain ⟨xa, xe, hva⟩ := hx.form
  have hql' : ((2 + q : Nat) : Int) < ts.length := by omega
  have hin : ts[2 + q] ∈ ts := List.getElem_mem hql
  generalize hy : ts[2 + q] = t0 at *
  generalize hQ : 2 + q = Q at *
  have hr0 := r0
  rw [f3] at hr0
  have hT : ∀ u, some t0 = some u → u ∈ ts ∧ u.ty = 2 := fun u hu => by cases hu; exact ⟨hin, hq2⟩
  obtain ⟨ty0, bits0, base0, size0, used0, frm0, badge0, full0, word0, d00, d10, d20, d30⟩ := t0
  simp only [cG] at e3
  simp (maxSteps := 1000000) (disch := first | assumption | omega | rfl | decide | simp only [fitsR, Bool.and_self]) [↓rules, rules, ↓rulesDp, rulesDq, lit_u64, Int.ofNat_inj, stops, q_int, q_bool, q_geo_Geo, q_S_state_Slot, q_S_thing_Thing, q_state_State, q_cap_Cap, q_state_Slot, q_S_int, q_api_Errno, q_path_Path, q_uint64, q_A4_uint64, q_thing_Thing, hr0, r1, w1, hql', e3]
  generalize hT0 : (⟨ty0, bits0, base0, size0, used0, frm0, badge0, full0, word0, d00, d10, d20, d30⟩ : Tg) = T0 at *
  refine ⟨by omega, ?_⟩
  rw [hva]
  simp (maxSteps := 1000000) (disch := first | assumption | omega | rfl | decide | simp only [fitsR, Bool.and_self]) [↓rules, rules, ↓rulesDp, rulesDq, lit_u64, Int.ofNat_inj, stops, q_int, q_bool, q_geo_Geo, q_S_state_Slot, q_S_thing_Thing, q_state_State, q_cap_Cap, q_state_Slot, q_S_int, q_api_Errno, q_path_Path, q_uint64, q_A4_uint64, q_thing_Thing]
  refine rwp_loop (fun j l g' n' => ∃ i k o t, j = xs.length - i ∧ i ≤ xs.length ∧ Kept g n g' n' ∧ n + 1 + 1 + 1 ≤ n' ∧ g' n = some (rowS a b c VS VT) ∧ g' (n + 1 + 1) = some (.row (cG t) true) ∧ goV ss ts (some T0) 0 xs = goV ss ts o k (xs.drop i) ∧ (i = 0 → o = some t) ∧ (0 < i → o = throughS ss ts k ∧ 0 ≤ k ∧ k < ss.length) ∧ (∀ u, o = some u → u ∈ ts ∧ u.ty = 2) ∧ l = [(3, .pointer (some ⟨n, 0, none⟩)), (8, .pointer (some ⟨n + 1 + 1, 0, none⟩)), (9, .bool true), (10, .int .i64 k), (37, .slice xa xs.length xe), (38, .int .i64 xs.length), (39, .int .i64 i)]) ?_ (k := xs.length) ?_
  · rintro j l g' n' ⟨i, k, o, t, rfl, hi, kp, hn', s0, s2, hgo, ho0, ho1, hou, rfl⟩
    by_cases hlt : (i : Int) < (xs.length : Int)
    case neg =>
      have : i = xs.length := by omega
      subst this
      rw [List.drop_length, goV] at hgo
      simp (maxSteps := 1000000) (disch := first | assumption | omega | rfl | decide | simp only [fitsR, Bool.and_self]) [↓rules, rules, ↓rulesDp, rulesDq, lit_u64, Int.ofNat_inj, stops, rc_find_Slotl0, q_int, q_bool, q_geo_Geo, q_S_state_Slot, q_S_thing_Thing, q_state_State, q_cap_Cap, q_state_Slot, q_S_int, q_api_Errno, q_path_Path, q_uint64, q_A4_uint64, q_thing_Thing, hlt]
      refine done_q hdom kp rfl ?_
      rw [hgo]; rfl
    have hlt1 : i < xs.length := by omega
    obtain ⟨bx, ox, hx1', _, hx2⟩ := hx.one hlt1
    have ex := hx2 g' (kp.ext hdom) Try.prog _ ta_int
    have hva' : Value.slice xa xs.length xe = .slice (some ⟨bx, ox, none⟩) xs.length 1 := by rw [← hva]; exact hx1'
    rw [hva']
    rw [List.drop_eq_getElem_cons hlt1] at hgo
    obtain ⟨x0, x1⟩ := p3 _ (List.getElem_mem hlt1)
    generalize hxi : xs[i] = x at *
    have w2 : IntKind.i64.wrap ((i : Int) + 1) = ((i + 1 : Nat) : Int) := by rw [wrap_i64 (by omega) (by omega)]; omega
    have tl : ∀ u, u ∈ ts ∧ u.ty = 2 → o = some u → nodeIn u ∧ (stepS u x = -1 ∨ (0 ≤ stepS u x ∧ stepS u x < ss.length)) := fun u hu _ => ⟨things_node hth u hu.1, stepS_in hno (things_node hth u hu.1) hu.1 hu.2 x0⟩
    by_cases hi0 : (0 : Int) < (i : Int)
    case neg =>
      have hin' : ¬ 0 < i := by omega
      have : i = 0 := by omega
      have hoo := ho0 this
      subst hoo
      obtain ⟨hu1, hu2⟩ := hou t rfl
      obtain ⟨hnt, hst⟩ := tl t ⟨hu1, hu2⟩ rfl
      rw [goV] at hgo
      have hstep := find_step t x g' n' hnt hu2 x0 (by omega)
      generalize stepS t x = z at *
      obtain ⟨ty1, bits1, base1, size1, used1, frm1, badge1, full1, word1, d01, d11, d21, d31⟩ := t
      simp only [cG] at s2 hstep
      by_cases hz : z < 0
      · rw [if_pos hz] at hgo
        simp (maxSteps := 1000000) (disch := first | assumption | omega | rfl | decide | simp only [fitsR, Bool.and_self]) [↓rules, rules, ↓rulesDp, rulesDq, lit_u64, Int.ofNat_inj, stops, rc_find_Slotl0, q_int, q_bool, q_geo_Geo, q_S_state_Slot, q_S_thing_Thing, q_state_State, q_cap_Cap, q_state_Slot, q_S_int, q_api_Errno, q_path_Path, q_uint64, q_A4_uint64, q_thing_Thing, hlt, ex, hi0, hin', s2]
        refine rcall_quiet rfl hstep ?_
        simp (maxSteps := 1000000) (disch := first | assumption | omega | rfl | decide | simp only [fitsR, Bool.and_self]) [↓rules, rules, ↓rulesDp, rulesDq, lit_u64, Int.ofNat_inj, stops, q_int, q_bool, q_geo_Geo, q_S_state_Slot, q_S_thing_Thing, q_state_State, q_cap_Cap, q_state_Slot, q_S_int, q_api_Errno, q_path_Path, q_uint64, q_A4_uint64, q_thing_Thing, hz]
        refine done_q hdom kp rfl ?_
        rw [hgo]; rfl
      · rw [if_neg hz] at hgo
        simp (maxSteps := 1000000) (disch := first | assumption | omega | rfl | decide | simp only [fitsR, Bool.and_self]) [↓rules, rules, ↓rulesDp, rulesDq, lit_u64, Int.ofNat_inj, stops, rc_find_Slotl0, q_int, q_bool, q_geo_Geo, q_S_state_Slot, q_S_thing_Thing, q_state_State, q_cap_Cap, q_state_Slot, q_S_int, q_api_Errno, q_path_Path, q_uint64, q_A4_uint64, q_thing_Thing, hlt, ex, hi0, hin', s2]
        refine rcall_quiet rfl hstep ?_
        simp (maxSteps := 1000000) (disch := first | assumption | omega | rfl | decide | simp only [fitsR, Bool.and_self]) [↓rules, rules, ↓rulesDp, rulesDq, lit_u64, Int.ofNat_inj, stops, q_int, q_bool, q_geo_Geo, q_S_state_Slot, q_S_thing_Thing, q_state_State, q_cap_Cap, q_state_Slot, q_S_int, q_api_Errno, q_path_Path, q_uint64, q_A4_uint64, q_thing_Thing, hz, s2]
        refine rcall_quiet rfl hstep ?_
        simp (maxSteps := 1000000) (disch := first | assumption | omega | rfl | decide | simp only [fitsR, Bool.and_self]) [↓rules, rules, ↓rulesDp, rulesDq, lit_u64, Int.ofNat_inj, stops, q_int, q_bool, q_geo_Geo, q_S_state_Slot, q_S_thing_Thing, q_state_State, q_cap_Cap, q_state_Slot, q_S_int, q_api_Errno, q_path_Path, q_uint64, q_A4_uint64, q_thing_Thing, w2]
        obtain ⟨zq, rfl⟩ : ∃ zq : Nat, z = zq := ⟨z.toNat, by omega⟩
        exact ⟨xs.length - (i + 1), by omega, i + 1, rfl, by omega, kp, hn', s0, zq, throughS ss ts zq, ⟨ty1, bits1, base1, size1, used1, frm1, badge1, full1, word1, d01, d11, d21, d31⟩, s2, hgo, fun h => by omega, fun _ => ⟨rfl, by omega, by omega⟩, fun u hu => throughS_in hcap (by omega) hu, rfl, by omega⟩
    have hin' : 0 < i := by omega
    obtain ⟨hoo, hk0, hk1⟩ := ho1 hin'
    obtain ⟨kq, rfl⟩ : ∃ kq : Nat, k = kq := ⟨k.toNat, by omega⟩
    have hthr := find_through a b c VS VT ss ts kq g' n' (by omega) hcap (hs.ext (kp.ext hdom)) (ht.ext (kp.ext hdom))
    rw [← hoo] at hthr
    have hne1 : n ≠ n + 1 + 1 := by omega
    cases o with
    | none =>
      rw [goV] at hgo
      obtain ⟨ty1, bits1, base1, size1, used1, frm1, badge1, full1, word1, d01, d11, d21, d31⟩ := t
      simp only [cG] at s2
      simp only [thrV, cG, noTg, Option.getD_none, Option.isSome_none] at hthr
      simp (maxSteps := 1000000) (disch := first | assumption | omega | rfl | decide | simp only [fitsR, Bool.and_self]) [↓rules, rules, ↓rulesDp, rulesDq, lit_u64, Int.ofNat_inj, stops, rc_find_Slotl0, q_int, q_bool, q_geo_Geo, q_S_state_Slot, q_S_thing_Thing, q_state_State, q_cap_Cap, q_state_Slot, q_S_int, q_api_Errno, q_path_Path, q_uint64, q_A4_uint64, q_thing_Thing, hlt, ex, hi0, hin', s0]
      refine rcall_quiet rfl hthr ?_
      simp (maxSteps := 1000000) (disch := first | assumption | omega | rfl | decide | simp only [fitsR, Bool.and_self]) [↓rules, rules, ↓rulesDp, rulesDq, lit_u64, Int.ofNat_inj, stops, q_int, q_bool, q_geo_Geo, q_S_state_Slot, q_S_thing_Thing, q_state_State, q_cap_Cap, q_state_Slot, q_S_int, q_api_Errno, q_path_Path, q_uint64, q_A4_uint64, q_thing_Thing, s2]
      refine ⟨by omega, ?_⟩
      refine done_q hdom (by repeat first | exact kp | refine Kept.new ?_ _ | refine Kept.drop ?_ (by omega) | refine Kept.put ?_ (by omega) (by omega) _ | refine Kept.skip ?_) rfl ?_
      rw [hgo]; rfl
    | some u =>
      obtain ⟨hu1, hu2⟩ := hou u rfl
      obtain ⟨hnt, hst⟩ := tl u ⟨hu1, hu2⟩ rfl
      rw [goV] at hgo
      have hstep := fun G N => find_step u x G N hnt hu2 x0 (by omega)
      simp only [thrV, Option.getD_some, Option.isSome_some] at hthr
      generalize stepS u x = z at *
      obtain ⟨ty1, bits1, base1, size1, used1, frm1, badge1, full1, word1, d01, d11, d21, d31⟩ := t
      simp only [cG] at s2
      have k2 : Kept g n (gset g' (n + 1 + 1) (some (.row (cG u) true))) n' := (by repeat first | exact kp | refine Kept.new ?_ _ | refine Kept.drop ?_ (by omega) | refine Kept.put ?_ (by omega) (by omega) _ | refine Kept.skip ?_)
      have s3 : gset g' (n + 1 + 1) (some (.row (cG u) true)) n = some (rowS a b c VS VT) := by rw [gset, if_neg (by omega)]; exact s0
      have s4 : gset g' (n + 1 + 1) (some (.row (cG u) true)) (n + 1 + 1) = some (.row (cG u) true) := by simp [gset]
      obtain ⟨ty2, bits2, base2, size2, used2, frm2, badge2, full2, word2, d02, d12, d22, d32⟩ := u
      simp only [cG] at hthr hstep k2 s3 s4
      simp (maxSteps := 1000000) (disch := first | assumption | omega | rfl | decide | simp only [fitsR, Bool.and_self]) [↓rules, rules, ↓rulesDp, rulesDq, lit_u64, Int.ofNat_inj, stops, rc_find_Slotl0, q_int, q_bool, q_geo_Geo, q_S_state_Slot, q_S_thing_Thing, q_state_State, q_cap_Cap, q_state_Slot, q_S_int, q_api_Errno, q_path_Path, q_uint64, q_A4_uint64, q_thing_Thing, hlt, ex, hi0, hin', s0]
      refine rcall_quiet rfl hthr ?_
      by_cases hz : z < 0
      · rw [if_pos hz] at hgo
        simp (maxSteps := 1000000) (disch := first | assumption | omega | rfl | decide | simp only [fitsR, Bool.and_self]) [↓rules, rules, ↓rulesDp, rulesDq, lit_u64, Int.ofNat_inj, stops, q_int, q_bool, q_geo_Geo, q_S_state_Slot, q_S_thing_Thing, q_state_State, q_cap_Cap, q_state_Slot, q_S_int, q_api_Errno, q_path_Path, q_uint64, q_A4_uint64, q_thing_Thing, s2]
        refine ⟨by omega, ?_⟩
        refine rcall_quiet rfl (hstep _ _) ?_
        simp (maxSteps := 1000000) (disch := first | assumption | omega | rfl | decide | simp only [fitsR, Bool.and_self]) [↓rules, rules, ↓rulesDp, rulesDq, lit_u64, Int.ofNat_inj, stops, q_int, q_bool, q_geo_Geo, q_S_state_Slot, q_S_thing_Thing, q_state_State, q_cap_Cap, q_state_Slot, q_S_int, q_api_Errno, q_path_Path, q_uint64, q_A4_uint64, q_thing_Thing, hz]
        refine done_q hdom k2 rfl ?_
        rw [hgo]; rfl
      · rw [if_neg hz] at hgo
        simp (maxSteps := 1000000) (disch := first | assumption | omega | rfl | decide | simp only [fitsR, Bool.and_self]) [↓rules, rules, ↓rulesDp, rulesDq, lit_u64, Int.ofNat_inj, stops, q_int, q_bool, q_geo_Geo, q_S_state_Slot, q_S_thing_Thing, q_state_State, q_cap_Cap, q_state_Slot, q_S_int, q_api_Errno, q_path_Path, q_uint64, q_A4_uint64, q_thing_Thing, s2]
        refine ⟨by omega, ?_⟩
        refine rcall_quiet rfl (hstep _ _) ?_
        simp (maxSteps := 1000000) (disch := first | assumption | omega | rfl | decide | simp only [fitsR, Bool.and_self]) [↓rules, rules, ↓rulesDp, rulesDq, lit_u64, Int.ofNat_inj, stops, q_int, q_bool, q_geo_Geo, q_S_state_Slot, q_S_thing_Thing, q_state_State, q_cap_Cap, q_state_Slot, q_S_int, q_api_Errno, q_path_Path, q_uint64, q_A4_uint64, q_thing_Thing, hz, s2]
        refine rcall_quiet rfl (hstep _ _) ?_
        simp (maxSteps := 1000000) (disch := first | assumption | omega | rfl | decide | simp only [fitsR, Bool.and_self]) [↓rules, rules, ↓rulesDp, rulesDq, lit_u64, Int.ofNat_inj, stops, q_int, q_bool, q_geo_Geo, q_S_state_Slot, q_S_thing_Thing, q_state_State, q_cap_Cap, q_state_Slot, q_S_int, q_api_Errno, q_path_Path, q_uint64, q_A4_uint64, q_thing_Thing, w2]
        obtain ⟨zq, rfl⟩ : ∃ zq : Nat, z = zq := ⟨z.toNat, by omega⟩
        exact ⟨xs.length - (i + 1), by omega, i + 1, rfl, by omega, k2, hn', s0, zq, throughS ss ts zq, ⟨ty2, bits2, base2, size2, used2, frm2, badge2, full2, word2, d02, d12, d22, d32⟩, rfl, hgo, fun h => by omega, fun _ => ⟨rfl, by omega, by omega⟩, fun u hu => throughS_in hcap (by omega) hu, rfl, by omega⟩
  · refine ⟨0, 0, some T0, T0, by simp, by simp, (by repeat first | exact k1 | refine Kept.new ?_ _ | refine Kept.drop ?_ (by omega) | refine Kept.put ?_ (by omega) (by omega) _ | refine Kept.skip ?_), by omega, ?_, ?_, rfl, fun _ => rfl, fun h => by omega, hT, by rfl⟩
    · rw [gset, if_neg (by omega)]; exact r0
    · rw [gset, if_pos rfl, ← hT0]; rfl
end Go.Proofs.Ytkcahnefekkfaaa.F13W

namespace Go.Proofs.Ytkcahnefekkfaaa.F13W
open Go Go.Proofs Go.Proofs.YtkcahnefekkfaaaAbs
variable [Base]
set_option maxHeartbeats 8000000
set_option maxRecDepth 100000
theorem aw13_run : yesT (cfn Try.prog tab ext 4000 60 f_reevelaw13_awake [] TM.none 0) = true := by kernel_rfl
theorem awake13 (g : AMem) (n : Nat) : FnC Try.prog f_reevelaw13_awake [] g n (fun _ => False) (.bool true) g n :=
  let ⟨_, h⟩ := quick_fnC hm tabOk extOk aw13_run
  FnC.closed h rfl rfl g n
def capV (ss : List Sl) (r : Int × Int) : Value :=
  if r.2 = 0 then (if noneS (slAt ss r.1) = true then .tuple #[.int .i64 0, c4 0 0 0 0, .int .i64 4] else .tuple #[.int .i64 r.1, c4 (slAt ss r.1).ty (slAt ss r.1).th (slAt ss r.1).ri (slAt ss r.1).ba, .int .i64 0])
  else .tuple #[.int .i64 0, c4 0 0 0 0, .int .i64 r.2]
def emptyV (ss : List Sl) (r : Int × Int) : Value :=
  if r.2 = 0 then (if noneS (slAt ss r.1) = true then .tuple #[.int .i64 r.1, .int .i64 0] else .tuple #[.int .i64 0, .int .i64 5])
  else .tuple #[.int .i64 0, .int .i64 r.2]
theorem find_Cap (a b c : Int) (VS VT va : Value) (ss : List Sl) (ts : List Tg) (th : Int) (xs : List Int) (g : AMem) (n : Nat) (hl : ss.length ≤ 100000) (hl2 : ts.length ≤ 100000) (hlx : xs.length ≤ 100000) (hgd : goodS a b c ss ts = true) (hs : rdS g VS ss) (ht : rdG g VT ts) (hx : rdI g va xs) :
    FnC Try.prog f_find_Cap [sv a b c VS VT, .int .i64 th, pv va] g n (fun _ => False) (capV ss (slotV a ss ts th xs)) g n := by
  refine fnC_of_rwp t_find_Cap hm rfl fun hdom => ?_
  have k1 : Kept g n (gset (gset (gset g n (some (rowS a b c VS VT))) (n + 1) (some (.row [va] true))) (n + 1 + 1) (some (.row [.int .i64 0, .int .i64 0, .int .i64 0, .int .i64 0] true))) (n + 1 + 1 + 1) := (by repeat first | exact Kept.refl hdom | refine Kept.new ?_ _ | refine Kept.drop ?_ (by omega) | refine Kept.put ?_ (by omega) (by omega) _ | refine Kept.skip ?_)
  have hs1 := hs.ext (k1.ext hdom)
  have ht1 := ht.ext (k1.ext hdom)
  have hx1 := hx.ext (k1.ext hdom)
  have r0 : gset (gset (gset g n (some (rowS a b c VS VT))) (n + 1) (some (.row [va] true))) (n + 1 + 1) (some (.row [.int .i64 0, .int .i64 0, .int .i64 0, .int .i64 0] true)) n = some (rowS a b c VS VT) := by rw [gset, if_neg (by omega), gset, if_neg (by omega), gset, if_pos rfl]
  have r9 : gset (gset (gset g n (some (rowS a b c VS VT))) (n + 1) (some (.row [va] true))) (n + 1 + 1) (some (.row [.int .i64 0, .int .i64 0, .int .i64 0, .int .i64 0] true)) (n + 1 + 1) = some (.row [.int .i64 0, .int .i64 0, .int .i64 0, .int .i64 0] true) := by rw [gset, if_pos rfl]
  simp (maxSteps := 1000000) (disch := first | assumption | omega | rfl | decide | simp only [fitsR, Bool.and_self]) [↓rules, rules, ↓rulesDp, rulesDq, lit_u64, Int.ofNat_inj, stops, rc_find_Cap, q_int, q_bool, q_geo_Geo, q_S_state_Slot, q_S_thing_Thing, q_state_State, q_cap_Cap, q_state_Slot, q_S_int, q_api_Errno, q_path_Path, q_uint64, q_A4_uint64, q_thing_Thing]
  generalize gset (gset (gset g n (some (rowS a b c VS VT))) (n + 1) (some (.row [va] true))) (n + 1 + 1) (some (.row [.int .i64 0, .int .i64 0, .int .i64 0, .int .i64 0] true)) = G at *
  refine rcall_quiet rfl (find_Slot a b c VS VT va ss ts th xs _ _ hl hl2 hlx hgd hs1 ht1 hx1) ?_
  have hin := slotV_in hgd (th := th) (l := xs)
  generalize slotV a ss ts th xs = R at *
  obtain ⟨k, e⟩ := R
  unfold capV
  dsimp only at *
  by_cases he : e = 0
  case neg =>
    rw [if_neg he]
    simp (maxSteps := 1000000) (disch := first | assumption | omega | rfl | decide | simp only [fitsR, Bool.and_self]) [↓rules, rules, ↓rulesDp, rulesDq, lit_u64, Int.ofNat_inj, stops, q_int, q_bool, q_geo_Geo, q_S_state_Slot, q_S_thing_Thing, q_state_State, q_cap_Cap, q_state_Slot, q_S_int, q_api_Errno, q_path_Path, q_uint64, q_A4_uint64, q_thing_Thing, he, r9]
    refine ⟨by omega, ?_⟩
    refine done_q hdom (k1.put (by omega) (by omega) _) rfl ?_
    simp (maxSteps := 1000000) (disch := first | assumption | omega | rfl | decide | simp only [fitsR, Bool.and_self]) [↓rules, rules, ↓rulesDp, rulesDq, lit_u64, Int.ofNat_inj, aResults, aRes, q_int, q_bool, q_geo_Geo, q_S_state_Slot, q_S_thing_Thing, q_state_State, q_cap_Cap, q_state_Slot, q_S_int, q_api_Errno, q_path_Path, q_uint64, q_A4_uint64, q_thing_Thing]
  subst he
  rw [if_pos rfl]
  obtain ⟨h0, h1⟩ := hin rfl
  obtain ⟨q, rfl⟩ : ∃ q : Nat, k = q := ⟨k.toNat, by omega⟩
  have hq : q < ss.length := by omega
  obtain ⟨b1, o1, f1, f2⟩ := rd_slot hs1 hq
  have e1 := (f2 _ (Ext.refl _)).1 Try.prog _ ta_cap_Cap ts_cap_Cap
  rw [slAt_nat hq]
  generalize hxx : ss[q] = x at *
  obtain ⟨ty, th, ri, ba, up⟩ := x
  dsimp only at *
  have r0' := r0
  rw [f1] at r0'
  simp (maxSteps := 1000000) (disch := first | assumption | omega | rfl | decide | simp only [fitsR, Bool.and_self]) [↓rules, rules, ↓rulesDp, rulesDq, lit_u64, Int.ofNat_inj, stops, q_int, q_bool, q_geo_Geo, q_S_state_Slot, q_S_thing_Thing, q_state_State, q_cap_Cap, q_state_Slot, q_S_int, q_api_Errno, q_path_Path, q_uint64, q_A4_uint64, q_thing_Thing, r0', h1, e1]
  refine rcall_quiet rfl (cap_None ty th ri ba _ _) ?_
  unfold noneS
  dsimp only
  cases cn : noneC ty th ri ba
  · simp (maxSteps := 1000000) (disch := first | assumption | omega | rfl | decide | simp only [fitsR, Bool.and_self]) [↓rules, rules, ↓rulesDp, rulesDq, lit_u64, Int.ofNat_inj, stops, q_int, q_bool, q_geo_Geo, q_S_state_Slot, q_S_thing_Thing, q_state_State, q_cap_Cap, q_state_Slot, q_S_int, q_api_Errno, q_path_Path, q_uint64, q_A4_uint64, q_thing_Thing, r0', h1, e1, r9]
    refine ⟨by omega, ?_⟩
    refine done_q hdom (k1.put (by omega) (by omega) _) rfl ?_
    simp (maxSteps := 1000000) (disch := first | assumption | omega | rfl | decide | simp only [fitsR, Bool.and_self]) [↓rules, rules, ↓rulesDp, rulesDq, lit_u64, Int.ofNat_inj, aResults, aRes, q_int, q_bool, q_geo_Geo, q_S_state_Slot, q_S_thing_Thing, q_state_State, q_cap_Cap, q_state_Slot, q_S_int, q_api_Errno, q_path_Path, q_uint64, q_A4_uint64, q_thing_Thing]
  · simp (maxSteps := 1000000) (disch := first | assumption | omega | rfl | decide | simp only [fitsR, Bool.and_self]) [↓rules, rules, ↓rulesDp, rulesDq, lit_u64, Int.ofNat_inj, stops, q_int, q_bool, q_geo_Geo, q_S_state_Slot, q_S_thing_Thing, q_state_State, q_cap_Cap, q_state_Slot, q_S_int, q_api_Errno, q_path_Path, q_uint64, q_A4_uint64, q_thing_Thing, r9]
    refine ⟨by omega, ?_⟩
    refine done_q hdom (k1.put (by omega) (by omega) _) rfl ?_
    simp (maxSteps := 1000000) (disch := first | assumption | omega | rfl | decide | simp only [fitsR, Bool.and_self]) [↓rules, rules, ↓rulesDp, rulesDq, lit_u64, Int.ofNat_inj, aResults, aRes, q_int, q_bool, q_geo_Geo, q_S_state_Slot, q_S_thing_Thing, q_state_State, q_cap_Cap, q_state_Slot, q_S_int, q_api_Errno, q_path_Path, q_uint64, q_A4_uint64, q_thing_Thing]
end Go.Proofs.Ytkcahnefekkfaaa.F13W
