/- Contracts of functions: what each one returns, and what it leaves. No statement is proved here. -/
import Derived.Test.YtkcahnefekkfaaaP13Wb
set_option linter.unusedVariables false
set_option linter.unusedSimpArgs false
set_option linter.unusedSectionVars false
namespace Go.Proofs.Ytkcahnefekkfaaa.F13W
open Go Go.Proofs Go.Proofs.YtkcahnefekkfaaaAbs
variable [Base]
set_option maxHeartbeats 4000000
set_option maxRecDepth 100000
theorem rdI_cases {g : AMem} {v : Value} {xs : List Int} (h : rdI g v xs) : v = .slice none 0 0 ∧ xs = [] ∨ ∃ b e, v = .slice (some b) xs.length e := by
  obtain ⟨a, e, rfl⟩ := h.form
  cases a with
  | some b => exact Or.inr ⟨b, e, rfl⟩
  | none =>
    left
    have h : aRead g 1 (.slice none xs.length e) = some (xs.length, xs.flatMap fun x => [Value.int .i64 x]) := h
    unfold aRead at h
    split at h
    · rename_i h1
      simp only [Value.slice.injEq] at h1
      obtain ⟨_, h2, h3⟩ := h1
      have : xs = [] := List.length_eq_zero_iff.1 h2
      subst this; subst h3
      exact ⟨rfl, rfl⟩
    · rename_i h1; cases h1
    · cases h
theorem slices_CloneI (va : Value) (u : List Int) (g : AMem) (n : Nat) (hdom : ∀ i, g i ≠ none → i < n) (hl : u.length ≤ 100000) (ha : rdI g va u) :
    FnS Try.prog f_slices_Clone_S_int_int [va] g n (fun _ => False) fun v g' n' => Gi n g' v u ∧ Kept g n g' n' := by
  refine fnS_of_rwp t_slices_Clone_S_int_int hm rfl hdom ?_
  rcases rdI_cases ha with ⟨rfl, rfl⟩ | ⟨b, e, hva⟩
  · simp (maxSteps := 1000000) (disch := first | assumption | omega | rfl | decide | simp only [fitsR, Bool.and_self]) [↓rules, rules, ↓rulesDp, rulesDq, lit_u64, Int.ofNat_inj, stops, rc_slices_Clone_S_int_int, q_int, q_bool, q_S_int, bin_eql_nils tu_S_int]
    exact sdone_ret rfl ⟨Or.inl ⟨rfl, rfl⟩, Kept.refl hdom⟩
  have k1 := (Kept.refl hdom).new (.row [] true)
  have hread := readI (ha.ext (k1.ext hdom))
  have hck := cellsI_ok u
  rw [hva] at hread
  by_cases h0 : u.length = 0
  · have : u = [] := List.length_eq_zero_iff.1 h0
    subst this
    rw [show ([] : List Int).length = 0 from rfl] at hread hva
    simp (maxSteps := 1000000) (disch := first | assumption | omega | rfl | decide | simp only [fitsR, Bool.and_self]) [↓rules, rules, ↓rulesDp, rulesDq, lit_u64, Int.ofNat_inj, stops, rc_slices_Clone_S_int_int, q_int, q_bool, q_S_int, hva, bin_eql_slice tu_S_int, hread]
    exact sdone_ret rfl ⟨Or.inr ⟨n, Nat.le_refl _, rfl, by simp [gset]⟩, k1⟩
  · have hsz : u.length * 8 ≤ 70368744177664 := by omega
    have hsz2 : u.length ≤ 70368744177664 := by omega
    simp (maxSteps := 1000000) (disch := first | assumption | omega | rfl | decide | simp only [fitsR, Bool.and_self]) [↓rules, rules, ↓rulesDp, rulesDq, lit_u64, Int.ofNat_inj, stops, rc_slices_Clone_S_int_int, q_int, q_bool, q_S_int, hva, hread, hck, h0, hsz, hsz2, bin_eql_slice tu_S_int]
    exact sdone_ret rfl ⟨Or.inr ⟨n + 1, by omega, rfl, by simp [gset]⟩, (by repeat first | exact Kept.refl hdom | refine Kept.new ?_ _ | refine Kept.drop ?_ (by omega) | refine Kept.put ?_ (by omega) (by omega) _ | refine Kept.skip ?_)⟩
theorem spliceI (u : List Int) (q : Nat) (v : Int) (h : q < u.length) : splice (cI u) q [.int .i64 v] = cI (u.set q v) := by
  rw [splice_one _ _ _ (by simpa [cI] using h), cI, cI, List.map_set]
/-- Put at a place. -/
def addOk (u : List Int) (i k : Int) : Bool := goodF u && (decide (0 ≤ i ∧ i < u.length) && (!isF u i && (decide (k = -1) || isF u k)))
end Go.Proofs.Ytkcahnefekkfaaa.F13W

namespace Go.Proofs.Ytkcahnefekkfaaa.F13W
open Go Go.Proofs Go.Proofs.YtkcahnefekkfaaaAbs
variable [Base]
set_option maxHeartbeats 8000000
set_option maxRecDepth 100000
/-! ### All ways -/
abbrev Ev := List Int × Int
def wItem (f : Tg → List Int → List Ev) (ss : List Sl) (ts : List Tg) (t : Tg) (ahead : List Int) (k : Nat) : List Ev :=
  (ahead ++ [(k : Int)], t.base + k) :: (match throughS ss ts (t.base + k) with | some u => f u (ahead ++ [(k : Int)]) | none => [])
def wUpto (f : Tg → List Int → List Ev) (ss : List Sl) (ts : List Tg) (t : Tg) (ahead : List Int) (m : Nat) : List Ev := (List.range m).flatMap (wItem f ss ts t ahead)
def waysL (ss : List Sl) (ts : List Tg) : Nat → Tg → List Int → List Ev
  | 0, _, _ => []
  | d + 1, t, ahead => wUpto (waysL ss ts d) ss ts t ahead (2 ^ t.bits.toNat)
theorem wUpto_succ (f : Tg → List Int → List Ev) (ss : List Sl) (ts : List Tg) (t : Tg) (ahead : List Int) (m : Nat) : wUpto f ss ts t ahead (m + 1) = wUpto f ss ts t ahead m ++ wItem f ss ts t ahead m := by
  unfold wUpto
  rw [List.range_succ, List.flatMap_append]
  simp
theorem wUpto_le (f : Tg → List Int → List Ev) (ss : List Sl) (ts : List Tg) (t : Tg) (ahead : List Int) : ∀ (m k : Nat), (wUpto f ss ts t ahead m).length ≤ (wUpto f ss ts t ahead (m + k)).length
  | m, 0 => Nat.le_refl _
  | m, k + 1 => by
    have := wUpto_le f ss ts t ahead m k
    rw [← Nat.add_assoc, wUpto_succ, List.length_append]
    omega
/-- Whatever all ways through a node satisfy, told of each one. -/
theorem waysL_mem {ss : List Sl} {ts : List Tg} {x : Ev} : ∀ {d : Nat} {t : Tg} {ahead : List Int}, x ∈ waysL ss ts d t ahead → ∃ (d' : Nat) (k : Nat), d = d' + 1 ∧ k < 2 ^ t.bits.toNat ∧ (x = (ahead ++ [(k : Int)], t.base + k) ∨ ∃ u, throughS ss ts (t.base + k) = some u ∧ x ∈ waysL ss ts d' u (ahead ++ [(k : Int)]))
  | 0, _, _, h => nomatch h
  | d + 1, t, ahead, h => by
    obtain ⟨k, hk, h⟩ := List.mem_flatMap.1 h
    have hk := List.mem_range.1 hk
    refine ⟨d, k, rfl, hk, ?_⟩
    rcases List.mem_cons.1 h with h | h
    · exact Or.inl h
    · right
      cases e : throughS ss ts (t.base + k) with
      | none => rw [e] at h; exact nomatch h
      | some u => rw [e] at h; exact ⟨u, rfl, h⟩
/-- Where a way leads, on from a node. -/
theorem ways_go {a b c : Int} {ss : List Sl} {ts : List Tg} (hg : goodS a b c ss ts = true) : ∀ (d : Nat) (t : Tg) (ahead : List Int) (x : Ev), t ∈ ts → t.ty = 2 → x ∈ waysL ss ts d t ahead →
    ∃ r, x.1 = ahead ++ r ∧ 1 ≤ r.length ∧ r.length ≤ d ∧ (∀ y, y ∈ r → 0 ≤ y ∧ y ≤ 15) ∧ (∀ k, goV ss ts (some t) k r = (x.2, 0)) ∧ (∃ u, u ∈ ts ∧ u.ty = 2 ∧ hasS u x.2 = true ∧ 0 ≤ x.2 ∧ x.2 < ss.length)
  | d, t, ahead, x, ht, h2, hx => by
    obtain ⟨_, _, _, hcap, hth, hno, _⟩ := goodS_parts hg
    obtain ⟨b0, b1, b2, b3⟩ := things_node hth t ht h2
    have hin := nodesS_in hno ht h2
    obtain ⟨d', k, rfl, hk, h⟩ := waysL_mem hx
    have h16 : 2 ^ t.bits.toNat ≤ 16 := Nat.pow_le_pow_right (n := 2) (j := 4) (by omega) (by omega)
    have hs : stepS t k = t.base + k := by unfold stepS; rw [if_neg (by omega)]
    have hhas : hasS t (t.base + k) = true := by
      simp only [hasS, Bool.and_eq_true, decide_eq_true_eq]
      omega
    rcases h with rfl | ⟨u, hu, h⟩
    · refine ⟨[(k : Int)], rfl, by simp, by simp, fun y hy => ?_, fun z => ?_, t, ht, h2, hhas, by dsimp only; omega, by dsimp only; omega⟩
      · have := List.mem_singleton.1 hy; omega
      · rw [goV, hs, if_neg (by omega), goV]
    · obtain ⟨q, hq⟩ : ∃ q : Nat, t.base + k = q := ⟨(t.base + k).toNat, by omega⟩
      have hui := throughS_in hcap (k := q) (by omega) (by rw [← hq]; exact hu)
      obtain ⟨r, e1, e2, e3, e4, e5, e6⟩ := ways_go hg d' u (ahead ++ [(k : Int)]) x hui.1 hui.2 h
      refine ⟨(k : Int) :: r, by rw [e1, List.append_assoc]; rfl, by simp, by simp; omega, fun y hy => ?_, fun z => ?_, e6⟩
      · rcases List.mem_cons.1 hy with h | h
        · omega
        · exact e4 y h
      · rw [goV, hs, if_neg (by omega), hu]
        exact e5 _
/-! ### What a visitor may change -/
structure KW (ob w w' : Nat) (g : AMem) (n : Nat) (g' : AMem) (n' : Nat) : Prop where
  le : n ≤ n'
  same : ∀ i, i < n → i ≠ ob → i ≠ w → g' i = g i
  new : w' = w ∨ n ≤ w'
  dom : ∀ i, g' i ≠ none → i < n'
theorem KW.trans {ob w w' w'' : Nat} {g g' g'' : AMem} {n n' n'' : Nat} (h : KW ob w w' g n g' n') (h' : KW ob w' w'' g' n' g'' n'') : KW ob w w'' g n g'' n'' := by
  have l1 := h.le
  have l2 := h'.le
  have e1 := h.new
  have e2 := h'.new
  exact ⟨by omega, fun i hi h1 h2 => by rw [h'.same i (by omega) h1 (by omega), h.same i hi h1 h2], by omega, h'.dom⟩
theorem KW.of {ob w : Nat} {g g' : AMem} {n n' : Nat} (h : Kept g n g' n') : KW ob w w g n g' n' := ⟨h.le, fun i hi _ _ => h.same i hi, Or.inl rfl, h.dom⟩
/-- Numbers that lie apart from what a visitor may change. -/
def AtB (ob w n : Nat) (g : AMem) (V : Value) (xs : List Int) : Prop := ∃ b, b < n ∧ b ≠ ob ∧ b ≠ w ∧ V = .slice (some ⟨b, 0, none⟩) xs.length 1 ∧ g b = some (.row (cI xs) true)
def AtR (ob w n : Nat) (g : AMem) (V : Value) (xs : List Int) : Prop := (V = .slice none 0 0 ∧ xs = []) ∨ AtB ob w n g V xs
theorem AtR.kw {ob w w' n n' : Nat} {g g' : AMem} {V : Value} {xs : List Int} (h : AtR ob w n g V xs) (k : KW ob w w' g n g' n') : AtR ob w' n' g' V xs := by
  rcases h with h | ⟨b, h1, h2, h3, h4, h5⟩
  · exact Or.inl h
  · have l1 := k.le
    have e1 := k.new
    exact Or.inr ⟨b, by omega, h2, by omega, h4, by rw [k.same b h1 h2 h3]; exact h5⟩
theorem AtR.rd {ob w n : Nat} {g : AMem} {V : Value} {xs : List Int} (h : AtR ob w n g V xs) : rdI g V xs := by
  rcases h with h | ⟨b, h1, h2, h3, h4, h5⟩
  · exact Gi.rd (n := 0) (Or.inl h)
  · exact Gi.rd (n := 0) (Or.inr ⟨b, Nat.zero_le _, h4, h5⟩)
/-- A visitor: what it has been told so far. -/
structure Vis (k : FuncId) (caps : List Value) (ob : Nat) (Inv : List Ev → Nat → AMem → Prop) : Prop where
  go : goFn Try.prog k = true
  old : ∀ {log w g}, Inv log w g → g ob ≠ none ∧ g w ≠ none
  kept : ∀ {log w g n g' n'}, (∀ i, g i ≠ none → i < n) → Inv log w g → Kept g n g' n' → Inv log w g'
  visit : ∀ {log w g n} (V : Value) (xs : List Int) (at_ : Int), (∀ i, g i ≠ none → i < n) → Inv log w g → AtB ob w n g V xs → log.length ≤ 10000 →
    FnS Try.prog k (V :: .int .i64 at_ :: caps) g n (fun i => i = ob ∨ i = w) fun _ g' n' => ∃ w', Inv (log ++ [(xs, at_)]) w' g' ∧ KW ob w w' g n g' n'
end Go.Proofs.Ytkcahnefekkfaaa.F13W

namespace Go.Proofs.Ytkcahnefekkfaaa.F13W
open Go Go.Proofs Go.Proofs.YtkcahnefekkfaaaAbs
variable [Base]
set_option maxHeartbeats 8000000
set_option maxRecDepth 100000
theorem KW.ext {ob w w' n n' : Nat} {h g g' : AMem} (k : KW ob w w' g n g' n') (hd : ∀ i, g i ≠ none → i < n) (hx : Ext h g) (h1 : h ob = none) (h2 : h w = none) : Ext h g' := fun i o hi => by
  have h3 := hx i o hi
  have i1 : i ≠ ob := fun e => by rw [e, h1] at hi; cases hi
  have i2 : i ≠ w := fun e => by rw [e, h2] at hi; cases hi
  rw [k.same i (hd i (by rw [h3]; simp)) i1 i2, h3]
theorem KW.none {ob w w' n n' nh : Nat} {h g g' : AMem} (k : KW ob w w' g n g' n') (hh : ∀ i, h i ≠ none → i < nh) (hn : nh ≤ n) (h2 : h w = none) : h w' = none := by
  cases e : h w' with
  | none => rfl
  | some o =>
    have h3 := hh w' (by rw [e]; simp)
    have := k.new
    rcases this with h4 | h4
    · rw [h4, h2] at e; cases e
    · omega
theorem find_ways {k : FuncId} {caps : List Value} {ob : Nat} {Inv : List Ev → Nat → AMem → Prop} (hv : Vis k caps ob Inv) (a b c : Int) (VS VT : Value) (ss : List Sl) (ts : List Tg) (hgd : goodS a b c ss ts = true) (h : AMem) (nh : Nat) (hh : ∀ i, h i ≠ none → i < nh) (hs : rdS h VS ss) (ht : rdG h VT ts) (hob : h ob = none) :
    ∀ (d : Nat) (t : Tg) (ahead : List Int) (Va : Value) (log : List Ev) (w : Nat) (g : AMem) (n : Nat), (∀ i, g i ≠ none → i < n) → nh ≤ n → Ext h g → h w = none → Inv log w g → AtR ob w n g Va ahead → t ∈ ts → t.ty = 2 → ahead.length + d = 2 → log.length + (waysL ss ts (d + 1) t ahead).length ≤ 10000 →
      FnS Try.prog f_find_ways [sv a b c VS VT, .agg (cG t).toArray, Va, .func (.func k) #[] caps.toArray] g n (fun i => i = ob ∨ i = w) fun _ g' n' => ∃ w', Inv (log ++ waysL ss ts (d + 1) t ahead) w' g' ∧ KW ob w w' g n g' n'
  | d, t, ahead, Va, log, w, g, n, hdom, hnh, hx, hw, hi0, hVa, htm, ht2, hlen, hbig => by
    have IH : ∀ (u : Tg) (ah : List Int) (V : Value) (lg : List Ev) (w : Nat) (g : AMem) (n : Nat), 1 ≤ d → (∀ i, g i ≠ none → i < n) → nh ≤ n → Ext h g → h w = none → Inv lg w g → AtR ob w n g V ah → u ∈ ts → u.ty = 2 → ah.length + d = 3 → lg.length + (waysL ss ts d u ah).length ≤ 10000 →
        FnS Try.prog f_find_ways [sv a b c VS VT, .agg (cG u).toArray, V, .func (.func k) #[] caps.toArray] g n (fun i => i = ob ∨ i = w) fun _ g' n' => ∃ w', Inv (lg ++ waysL ss ts d u ah) w' g' ∧ KW ob w w' g n g' n' := by
      intro u ah V lg w g n h1
      obtain ⟨d', rfl⟩ : ∃ d', d = d' + 1 := ⟨d - 1, by omega⟩
      intro a1 a2 a3 a4 a5 a6 a7 a8 a9 a10
      exact find_ways hv a b c VS VT ss ts hgd h nh hh hs ht hob d' u ah V lg w g n a1 a2 a3 a4 a5 a6 a7 a8 (by omega) a10
    obtain ⟨_, hslen, hcl, hcap, hth, hno, _⟩ := goodS_parts hgd
    have hnt := things_node hth t htm
    obtain ⟨p0, p1, p2, p3⟩ := hnt ht2
    have hin := nodesS_in hno htm ht2
    obtain ⟨obN, wN⟩ := hv.old hi0
    have obn := hdom _ obN
    have wn := hdom _ wN
    obtain ⟨M, hM⟩ : ∃ M : Nat, M = 2 ^ t.bits.toNat := ⟨_, rfl⟩
    have h16 : M ≤ 16 := by rw [hM]; exact Nat.pow_le_pow_right (n := 2) (j := 4) (by omega) (by omega)
    have hW : waysL ss ts (d + 1) t ahead = wUpto (waysL ss ts d) ss ts t ahead M := by rw [hM]; rfl
    rw [← hM] at hin
    rw [hW] at hbig ⊢
    have hsl : ∀ (ty : TypeId) (xo yo : Operand), aBin Try.prog .shl ty xo yo (.int .i64 1) (.int .i64 t.bits) = some (.int .i64 M) := fun ty xo yo => by
      have h := bin_shl (P := Try.prog) (t := ty) (xo := xo) (yo := yo) (k := .i64) (k' := .i64) (a := 1) p2
      rw [shl_bits p2 p3, ← hM] at h
      exact h
    have hss : ∀ (i : Nat), i < M → ∃ q : Nat, stepS t i = q ∧ t.base + i = q ∧ q < ss.length := fun i hi => by
      obtain ⟨q, hq⟩ : ∃ q : Nat, t.base + i = q := ⟨(t.base + i).toNat, by omega⟩
      exact ⟨q, by unfold stepS; rw [← hM, if_neg (by omega)]; exact hq, hq, by omega⟩
    have hstep := fun (i : Nat) (hi : i < M) (g : AMem) (n : Nat) => find_step t i g n hnt ht2 (by omega) (by omega)
    have hitem : ∀ i : Nat, wItem (waysL ss ts d) ss ts t ahead i = (ahead ++ [(i : Int)], t.base + i) :: (match throughS ss ts (t.base + i) with | some u => waysL ss ts d u (ahead ++ [(i : Int)]) | none => []) := fun _ => rfl
    have hsucc := wUpto_succ (waysL ss ts d) ss ts t ahead
    have hmono := wUpto_le (waysL ss ts d) ss ts t ahead
    have hWU0 : wUpto (waysL ss ts d) ss ts t ahead 0 = [] := rfl
    refine fnS_of_rwp t_find_ways hm rfl hdom ?_
    have k1 : Kept g n (gset (gset g n (some (rowS a b c VS VT))) (n + 1) (some (.row (cG t) true))) (n + 1 + 1) := (by repeat first | exact Kept.refl hdom | refine Kept.new ?_ _ | refine Kept.drop ?_ (by omega) | refine Kept.put ?_ (by omega) (by omega) _ | refine Kept.skip ?_)
    have r0 : gset (gset g n (some (rowS a b c VS VT))) (n + 1) (some (.row (cG t) true)) n = some (rowS a b c VS VT) := by rw [gset, if_neg (by omega), gset, if_pos rfl]
    have r1 : gset (gset g n (some (rowS a b c VS VT))) (n + 1) (some (.row (cG t) true)) (n + 1) = some (.row (cG t) true) := by rw [gset, if_pos rfl]
    obtain ⟨tyT, bitsT, baseT, sizeT, usedT, frmT, badgeT, fullT, wordT, d0T, d1T, d2T, d3T⟩ := t
    simp only [cG] at k1 r0 r1 hstep ⊢
    dsimp only at hsl
    simp (maxSteps := 1000000) (disch := first | assumption | omega | rfl | decide | simp only [fitsR, Bool.and_self]) [↓rules, rules, ↓rulesDp, rulesDq, lit_u64, Int.ofNat_inj, stops, rc_find_ways, q_int, q_bool, q_geo_Geo, q_S_state_Slot, q_S_thing_Thing, q_state_State, q_cap_Cap, q_state_Slot, q_S_int, q_uint64, q_A4_uint64, q_thing_Thing, hsl]
    generalize gset (gset g n _) (n + 1) _ = G at *
    generalize wUpto (waysL ss ts d) ss ts ⟨tyT, bitsT, baseT, sizeT, usedT, frmT, badgeT, fullT, wordT, d0T, d1T, d2T, d3T⟩ ahead = WU at *
    generalize wItem (waysL ss ts d) ss ts ⟨tyT, bitsT, baseT, sizeT, usedT, frmT, badgeT, fullT, wordT, d0T, d1T, d2T, d3T⟩ ahead = WI at *
    refine rwp_loop (fun j l g' n' => ∃ i w', j = M - i ∧ i ≤ M ∧ Inv (log ++ WU i) w' g' ∧ KW ob w w' G (n + 1 + 1) g' n' ∧ g' n = some (rowS a b c VS VT) ∧ g' (n + 1) = some (.row [.int .i64 tyT, .int .i64 bitsT, .int .i64 baseT, .int .i64 sizeT, .int .i64 usedT, .int .i64 frmT, .int .i64 badgeT, .bool fullT, U wordT, U d0T, U d1T, U d2T, U d3T] true) ∧ l = [(2, Va), (3, .func (.func k) #[] caps.toArray), (4, .pointer (some ⟨n, 0, none⟩)), (5, .pointer (some ⟨n + 1, 0, none⟩)), (15, .int .i64 M), (16, .int .i64 i)]) ?_ (k := M) ?_
    · rintro j l g' n' ⟨i, w', rfl, hi, inv, kp, s0, s1, rfl⟩
      by_cases hlt : (i : Int) < (M : Int)
      case neg =>
        have : i = M := by omega
        subst this
        simp (maxSteps := 1000000) (disch := first | assumption | omega | rfl | decide | simp only [fitsR, Bool.and_self]) [↓rules, rules, ↓rulesDp, rulesDq, lit_u64, Int.ofNat_inj, stops, rc_find_waysl0, q_int, q_bool, q_geo_Geo, q_S_state_Slot, q_S_thing_Thing, q_state_State, q_cap_Cap, q_state_Slot, q_S_int, q_uint64, q_A4_uint64, q_thing_Thing, hlt]
        have l1 := kp.le
        have e1 := kp.new
        exact sdone_normal rfl ⟨w', inv, (KW.of k1).trans kp⟩
      have hlt1 : i < M := by omega
      have hVa' := (hVa.kw (KW.of k1)).kw kp
      have hx' := kp.ext k1.dom (hx.trans (k1.ext hdom)) hob hw
      have hw' := kp.none hh (by omega) hw
      have w1 : IntKind.i64.wrap ((i : Int) + 1) = ((i + 1 : Nat) : Int) := by rw [wrap_i64 (by omega) (by omega)]; omega
      have l1 := kp.le
      have e1 := kp.new
      obtain ⟨q, hq1, hq2, hq3⟩ := hss i hlt1
      simp (maxSteps := 1000000) (disch := first | assumption | omega | rfl | decide | simp only [fitsR, Bool.and_self]) [↓rules, rules, ↓rulesDp, rulesDq, lit_u64, Int.ofNat_inj, stops, rc_find_waysl0, q_int, q_bool, q_geo_Geo, q_S_state_Slot, q_S_thing_Thing, q_state_State, q_cap_Cap, q_state_Slot, q_S_int, q_uint64, q_A4_uint64, q_thing_Thing, hlt]
      refine rcall_spec (slices_CloneI Va ahead g' n' kp.dom (by omega) hVa'.rd) rfl (fun _ h => h.elim) rfl fun V1 g1 n1 ⟨p1', q1⟩ => ?_
      have l2 := q1.le
      have s1g : g1 (n + 1) = some (.row [.int .i64 tyT, .int .i64 bitsT, .int .i64 baseT, .int .i64 sizeT, .int .i64 usedT, .int .i64 frmT, .int .i64 badgeT, .bool fullT, U wordT, U d0T, U d1T, U d2T, U d3T] true) := by rw [q1.same (n + 1) (by omega)]; exact s1
      have y1 : n + 1 ≠ n1 := by omega
      have y2 : n ≠ n1 := by omega
      rcases p1' with ⟨rfl, hnil⟩ | ⟨bV, hbV, rfl, hgV⟩
      · simp (maxSteps := 1000000) (disch := first | assumption | omega | rfl | decide | simp only [fitsR, Bool.and_self]) [↓rules, rules, ↓rulesDp, rulesDq, lit_u64, Int.ofNat_inj, stops, q_int, q_bool, q_geo_Geo, q_S_state_Slot, q_S_thing_Thing, q_state_State, q_cap_Cap, q_state_Slot, q_S_int, q_uint64, q_A4_uint64, q_thing_Thing, s1g, y1, y2]
        have k2 : Kept g' n' (gset (gset g1 n1 (some (.row [.int .i64 (i : Int)] true))) (n1 + 1) (some (.row [.int .i64 (i : Int)] true))) (n1 + 1 + 1) := (q1.new _).new _
        have rL : (gset (gset g1 n1 (some (.row [.int .i64 (i : Int)] true))) (n1 + 1) (some (.row [.int .i64 (i : Int)] true))) (n1 + 1) = some (.row (cI (ahead ++ [(i : Int)])) true) := by rw [gset, if_pos rfl, hnil]; rfl
        have r2 : (gset (gset g1 n1 (some (.row [.int .i64 (i : Int)] true))) (n1 + 1) (some (.row [.int .i64 (i : Int)] true))) n = some (rowS a b c VS VT) := by rw [k2.same n (by omega)]; exact s0
        have r3 : (gset (gset g1 n1 (some (.row [.int .i64 (i : Int)] true))) (n1 + 1) (some (.row [.int .i64 (i : Int)] true))) (n + 1) = some (.row [.int .i64 tyT, .int .i64 bitsT, .int .i64 baseT, .int .i64 sizeT, .int .i64 usedT, .int .i64 frmT, .int .i64 badgeT, .bool fullT, U wordT, U d0T, U d1T, U d2T, U d3T] true) := by rw [k2.same (n + 1) (by omega)]; exact s1
        generalize gset (gset g1 n1 (some (.row [.int .i64 (i : Int)] true))) (n1 + 1) (some (.row [.int .i64 (i : Int)] true)) = g2 at *
        refine rcall_quiet rfl (hstep i hlt1 _ _) ?_
        rw [hq1]
        have inv2 := hv.kept kp.dom inv k2
        obtain ⟨oN2, wN2⟩ := hv.old inv2
        have kw2 := kp.trans (KW.of k2)
        have wn' := kp.dom _ (hv.old inv).2
        simp (maxSteps := 1000000) (disch := first | assumption | omega | rfl | decide | simp only [fitsR, Bool.and_self]) [↓rules, rules, ↓rulesDp, rulesDq, lit_u64, Int.ofNat_inj, stops, q_int, q_bool, q_geo_Geo, q_S_state_Slot, q_S_thing_Thing, q_state_State, q_cap_Cap, q_state_Slot, q_S_int, q_uint64, q_A4_uint64, q_thing_Thing]
        have hlog : (log ++ WU i).length ≤ 10000 := by
          have := hmono i (M - i)
          rw [show i + (M - i) = M by omega] at this
          rw [List.length_append]; omega
        have hlog2 : log.length + (WU (i + 1)).length ≤ 10000 := by
          have := hmono (i + 1) (M - (i + 1))
          rw [show i + 1 + (M - (i + 1)) = M by omega] at this
          omega
        have hit := hitem i
        rw [hq2] at hit
        have hsi := hsucc i
        have atB : AtB ob w' (n1 + 1 + 1) g2 (.slice (some ⟨n1 + 1, 0, none⟩) 1 1) (ahead ++ [(i : Int)]) := ⟨n1 + 1, by omega, by omega, by omega, by rw [hnil]; rfl, rL⟩
        refine rcall_spec (hv.visit _ (ahead ++ [(i : Int)]) q k2.dom inv2 atB hlog) hv.go (fun z hz hzn => by show z = ob ∨ z = w; have hz : z = ob ∨ z = w' := hz; omega) rfl fun v g3 n3 ⟨w3, i3, k3⟩ => ?_
        have l3 := k3.le
        have e3 := k3.new
        have s3 : g3 n = some (rowS a b c VS VT) := by rw [k3.same n (by omega) (by omega) (by omega)]; exact r2
        have s4 : g3 (n + 1) = some (.row [.int .i64 tyT, .int .i64 bitsT, .int .i64 baseT, .int .i64 sizeT, .int .i64 usedT, .int .i64 frmT, .int .i64 badgeT, .bool fullT, U wordT, U d0T, U d1T, U d2T, U d3T] true) := by rw [k3.same (n + 1) (by omega) (by omega) (by omega)]; exact r3
        have kw3 := kw2.trans k3
        have hx3 := kw3.ext k1.dom (hx.trans (k1.ext hdom)) hob hw
        have hw3 := kw3.none hh (by omega) hw
        have atL3 := AtR.kw (Or.inr atB) k3
        have hthr := find_through a b c VS VT ss ts q g3 n3 hq3 hcap (hs.ext hx3) (ht.ext hx3)
        simp (maxSteps := 1000000) (disch := first | assumption | omega | rfl | decide | simp only [fitsR, Bool.and_self]) [↓rules, rules, ↓rulesDp, rulesDq, lit_u64, Int.ofNat_inj, stops, q_int, q_bool, q_geo_Geo, q_S_state_Slot, q_S_thing_Thing, q_state_State, q_cap_Cap, q_state_Slot, q_S_int, q_uint64, q_A4_uint64, q_thing_Thing, s3]
        refine rcall_quiet rfl hthr ?_
        cases hth2 : throughS ss ts q with
        | none =>
          rw [hth2] at hit
          have q4 := (Kept.refl k3.dom).new (.row [.int .i64 0, .int .i64 0, .int .i64 0, .int .i64 0, .int .i64 0, .int .i64 0, .int .i64 0, .bool false, U 0#64, U 0#64, U 0#64, U 0#64, U 0#64] true)
          have inv4 := hv.kept k3.dom i3 q4
          have kw4 := kw3.trans (KW.of q4)
          have s5 : gset g3 n3 (some (.row [.int .i64 0, .int .i64 0, .int .i64 0, .int .i64 0, .int .i64 0, .int .i64 0, .int .i64 0, .bool false, U 0#64, U 0#64, U 0#64, U 0#64, U 0#64] true)) n = some (rowS a b c VS VT) := by rw [q4.same n (by omega)]; exact s3
          have s6 : gset g3 n3 (some (.row [.int .i64 0, .int .i64 0, .int .i64 0, .int .i64 0, .int .i64 0, .int .i64 0, .int .i64 0, .bool false, U 0#64, U 0#64, U 0#64, U 0#64, U 0#64] true)) (n + 1) = some (.row [.int .i64 tyT, .int .i64 bitsT, .int .i64 baseT, .int .i64 sizeT, .int .i64 usedT, .int .i64 frmT, .int .i64 badgeT, .bool fullT, U wordT, U d0T, U d1T, U d2T, U d3T] true) := by rw [q4.same (n + 1) (by omega)]; exact s4
          simp only [thrV, cG, noTg, Option.getD_none, Option.isSome_none]
          simp (maxSteps := 1000000) (disch := first | assumption | omega | rfl | decide | simp only [fitsR, Bool.and_self]) [↓rules, rules, ↓rulesDp, rulesDq, lit_u64, Int.ofNat_inj, stops, q_int, q_bool, q_geo_Geo, q_S_state_Slot, q_S_thing_Thing, q_state_State, q_cap_Cap, q_state_Slot, q_S_int, q_uint64, q_A4_uint64, q_thing_Thing, w1]
          exact ⟨by omega, M - (i + 1), by omega, i + 1, rfl, by omega, w3, by rw [hsi, hit, ← List.append_assoc]; exact inv4, kw4, s3, s4, by omega⟩
        | some u =>
          rw [hth2] at hit
          obtain ⟨hu1, hu2⟩ := throughS_in hcap hq3 hth2
          have q4 := (Kept.refl k3.dom).new (.row (cG u) true)
          have inv4 := hv.kept k3.dom i3 q4
          have kw4 := kw3.trans (KW.of q4)
          have s5 : gset g3 n3 (some (.row (cG u) true)) n = some (rowS a b c VS VT) := by rw [q4.same n (by omega)]; exact s3
          have s6 : gset g3 n3 (some (.row (cG u) true)) (n + 1) = some (.row [.int .i64 tyT, .int .i64 bitsT, .int .i64 baseT, .int .i64 sizeT, .int .i64 usedT, .int .i64 frmT, .int .i64 badgeT, .bool fullT, U wordT, U d0T, U d1T, U d2T, U d3T] true) := by rw [q4.same (n + 1) (by omega)]; exact s4
          have s7 : gset g3 n3 (some (.row (cG u) true)) n3 = some (.row (cG u) true) := by rw [gset, if_pos rfl]
          have atL4 := atL3.kw (KW.of q4)
          have hx4 := kw4.ext k1.dom (hx.trans (k1.ext hdom)) hob hw
          simp only [thrV, Option.getD_some, Option.isSome_some]
          by_cases hd : 1 ≤ d
          · have hc1 : (ahead.length : Int) + 1 < 3 := by omega
            have hc2 : ahead.length + 1 < 3 := by omega
            have hc3 : ahead.length < 2 := by omega
            have hc4 : (ahead.length : Int) < 2 := by omega
            have hih := IH u (ahead ++ [(i : Int)]) _ (log ++ WU i ++ [(ahead ++ [(i : Int)], (q : Int))]) w3 _ _ hd q4.dom (by omega) hx4 hw3 inv4 atL4 hu1 hu2 (by simp; omega) (by
              rw [hsi, hit] at hlog2
              simp only [List.length_append, List.length_cons, List.length_nil] at hlog2 ⊢
              omega)
            rw [show log ++ WU i ++ [(ahead ++ [(i : Int)], (q : Int))] ++ waysL ss ts d u (ahead ++ [(i : Int)]) = log ++ WU (i + 1) by rw [hsi, hit]; simp] at hih
            obtain ⟨tyU, bitsU, baseU, sizeU, usedU, frmU, badgeU, fullU, wordU, d0U, d1U, d2U, d3U⟩ := u
            simp only [cG] at s5 s6 s7 hih q4 kw4 ⊢
            have y4 : n ≠ n3 := by omega
            simp (maxSteps := 1000000) (disch := first | assumption | omega | rfl | decide | simp only [fitsR, Bool.and_self]) [↓rules, rules, ↓rulesDp, rulesDq, lit_u64, Int.ofNat_inj, stops, q_int, q_bool, q_geo_Geo, q_S_state_Slot, q_S_thing_Thing, q_state_State, q_cap_Cap, q_state_Slot, q_S_int, q_uint64, q_A4_uint64, q_thing_Thing, s3, y4, hc1, hc2, hc3, hc4]
            refine ⟨by omega, ?_⟩
            generalize gset g3 n3 _ = g4 at *
            refine rcall_spec hih rfl (fun z hz hzn => by show z = ob ∨ z = w; have hz : z = ob ∨ z = w3 := hz; omega) rfl fun v g5 n5 ⟨w5, i5, k5⟩ => ?_
            have s8 : g5 n = some (rowS a b c VS VT) := by rw [k5.same n (by omega) (by omega) (by omega)]; exact s5
            have s9 : g5 (n + 1) = some (.row [.int .i64 tyT, .int .i64 bitsT, .int .i64 baseT, .int .i64 sizeT, .int .i64 usedT, .int .i64 frmT, .int .i64 badgeT, .bool fullT, U wordT, U d0T, U d1T, U d2T, U d3T] true) := by rw [k5.same (n + 1) (by omega) (by omega) (by omega)]; exact s6
            have kw5 := kw4.trans k5
            simp (maxSteps := 1000000) (disch := first | assumption | omega | rfl | decide | simp only [fitsR, Bool.and_self]) [↓rules, rules, ↓rulesDp, rulesDq, lit_u64, Int.ofNat_inj, stops, q_int, q_bool, q_geo_Geo, q_S_state_Slot, q_S_thing_Thing, q_state_State, q_cap_Cap, q_state_Slot, q_S_int, q_uint64, q_A4_uint64, q_thing_Thing, w1]
            exact ⟨M - (i + 1), by omega, i + 1, rfl, by omega, w5, i5, kw5, s8, s9, by omega⟩
          · have h0 := congrArg List.length hnil
            rw [List.length_nil] at h0
            omega
      · have hbm := q1.dom bV (by rw [hgV]; simp)
        have hbn1 : bV ≠ n1 := by omega
        have hsz : (ahead.length + 1) * 8 ≤ 70368744177664 := by omega
        have hsz2 : ahead.length ≤ 70368744177663 := by omega
        have y3 : n + 1 ≠ bV := by omega
        simp (maxSteps := 1000000) (disch := first | assumption | omega | rfl | decide | simp only [fitsR, Bool.and_self]) [↓rules, rules, ↓rulesDp, rulesDq, lit_u64, Int.ofNat_inj, stops, q_int, q_bool, q_geo_Geo, q_S_state_Slot, q_S_thing_Thing, q_state_State, q_cap_Cap, q_state_Slot, q_S_int, q_uint64, q_A4_uint64, q_thing_Thing, hgV, hbn1, hsz, hsz2, s1g, y1, y2, y3]
        refine ⟨by omega, ?_⟩
        have k2 : Kept g' n' (gset (gset (gset g1 n1 (some (.row [.int .i64 (i : Int)] true))) bV none) (n1 + 1) (some (.row (cI ahead ++ [.int .i64 (i : Int)]) true))) (n1 + 1 + 1) := ((q1.new _).drop hbV).new _
        have rL : (gset (gset (gset g1 n1 (some (.row [.int .i64 (i : Int)] true))) bV none) (n1 + 1) (some (.row (cI ahead ++ [.int .i64 (i : Int)]) true))) (n1 + 1) = some (.row (cI (ahead ++ [(i : Int)])) true) := by rw [gset, if_pos rfl]; simp [cI]
        have r2 : (gset (gset (gset g1 n1 (some (.row [.int .i64 (i : Int)] true))) bV none) (n1 + 1) (some (.row (cI ahead ++ [.int .i64 (i : Int)]) true))) n = some (rowS a b c VS VT) := by rw [k2.same n (by omega)]; exact s0
        have r3 : (gset (gset (gset g1 n1 (some (.row [.int .i64 (i : Int)] true))) bV none) (n1 + 1) (some (.row (cI ahead ++ [.int .i64 (i : Int)]) true))) (n + 1) = some (.row [.int .i64 tyT, .int .i64 bitsT, .int .i64 baseT, .int .i64 sizeT, .int .i64 usedT, .int .i64 frmT, .int .i64 badgeT, .bool fullT, U wordT, U d0T, U d1T, U d2T, U d3T] true) := by rw [k2.same (n + 1) (by omega)]; exact s1
        generalize gset (gset (gset g1 n1 (some (.row [.int .i64 (i : Int)] true))) bV none) (n1 + 1) (some (.row (cI ahead ++ [.int .i64 (i : Int)]) true)) = g2 at *
        refine rcall_quiet rfl (hstep i hlt1 _ _) ?_
        rw [hq1]
        have inv2 := hv.kept kp.dom inv k2
        obtain ⟨oN2, wN2⟩ := hv.old inv2
        have kw2 := kp.trans (KW.of k2)
        have wn' := kp.dom _ (hv.old inv).2
        simp (maxSteps := 1000000) (disch := first | assumption | omega | rfl | decide | simp only [fitsR, Bool.and_self]) [↓rules, rules, ↓rulesDp, rulesDq, lit_u64, Int.ofNat_inj, stops, q_int, q_bool, q_geo_Geo, q_S_state_Slot, q_S_thing_Thing, q_state_State, q_cap_Cap, q_state_Slot, q_S_int, q_uint64, q_A4_uint64, q_thing_Thing]
        have hlog : (log ++ WU i).length ≤ 10000 := by
          have := hmono i (M - i)
          rw [show i + (M - i) = M by omega] at this
          rw [List.length_append]; omega
        have hlog2 : log.length + (WU (i + 1)).length ≤ 10000 := by
          have := hmono (i + 1) (M - (i + 1))
          rw [show i + 1 + (M - (i + 1)) = M by omega] at this
          omega
        have hit := hitem i
        rw [hq2] at hit
        have hsi := hsucc i
        have atB : AtB ob w' (n1 + 1 + 1) g2 (.slice (some ⟨n1 + 1, 0, none⟩) (ahead.length + 1) 1) (ahead ++ [(i : Int)]) := ⟨n1 + 1, by omega, by omega, by omega, by simp, rL⟩
        refine rcall_spec (hv.visit _ (ahead ++ [(i : Int)]) q k2.dom inv2 atB hlog) hv.go (fun z hz hzn => by show z = ob ∨ z = w; have hz : z = ob ∨ z = w' := hz; omega) rfl fun v g3 n3 ⟨w3, i3, k3⟩ => ?_
        have l3 := k3.le
        have e3 := k3.new
        have s3 : g3 n = some (rowS a b c VS VT) := by rw [k3.same n (by omega) (by omega) (by omega)]; exact r2
        have s4 : g3 (n + 1) = some (.row [.int .i64 tyT, .int .i64 bitsT, .int .i64 baseT, .int .i64 sizeT, .int .i64 usedT, .int .i64 frmT, .int .i64 badgeT, .bool fullT, U wordT, U d0T, U d1T, U d2T, U d3T] true) := by rw [k3.same (n + 1) (by omega) (by omega) (by omega)]; exact r3
        have kw3 := kw2.trans k3
        have hx3 := kw3.ext k1.dom (hx.trans (k1.ext hdom)) hob hw
        have hw3 := kw3.none hh (by omega) hw
        have atL3 := AtR.kw (Or.inr atB) k3
        have hthr := find_through a b c VS VT ss ts q g3 n3 hq3 hcap (hs.ext hx3) (ht.ext hx3)
        simp (maxSteps := 1000000) (disch := first | assumption | omega | rfl | decide | simp only [fitsR, Bool.and_self]) [↓rules, rules, ↓rulesDp, rulesDq, lit_u64, Int.ofNat_inj, stops, q_int, q_bool, q_geo_Geo, q_S_state_Slot, q_S_thing_Thing, q_state_State, q_cap_Cap, q_state_Slot, q_S_int, q_uint64, q_A4_uint64, q_thing_Thing, s3]
        refine rcall_quiet rfl hthr ?_
        cases hth2 : throughS ss ts q with
        | none =>
          rw [hth2] at hit
          have q4 := (Kept.refl k3.dom).new (.row [.int .i64 0, .int .i64 0, .int .i64 0, .int .i64 0, .int .i64 0, .int .i64 0, .int .i64 0, .bool false, U 0#64, U 0#64, U 0#64, U 0#64, U 0#64] true)
          have inv4 := hv.kept k3.dom i3 q4
          have kw4 := kw3.trans (KW.of q4)
          have s5 : gset g3 n3 (some (.row [.int .i64 0, .int .i64 0, .int .i64 0, .int .i64 0, .int .i64 0, .int .i64 0, .int .i64 0, .bool false, U 0#64, U 0#64, U 0#64, U 0#64, U 0#64] true)) n = some (rowS a b c VS VT) := by rw [q4.same n (by omega)]; exact s3
          have s6 : gset g3 n3 (some (.row [.int .i64 0, .int .i64 0, .int .i64 0, .int .i64 0, .int .i64 0, .int .i64 0, .int .i64 0, .bool false, U 0#64, U 0#64, U 0#64, U 0#64, U 0#64] true)) (n + 1) = some (.row [.int .i64 tyT, .int .i64 bitsT, .int .i64 baseT, .int .i64 sizeT, .int .i64 usedT, .int .i64 frmT, .int .i64 badgeT, .bool fullT, U wordT, U d0T, U d1T, U d2T, U d3T] true) := by rw [q4.same (n + 1) (by omega)]; exact s4
          simp only [thrV, cG, noTg, Option.getD_none, Option.isSome_none]
          simp (maxSteps := 1000000) (disch := first | assumption | omega | rfl | decide | simp only [fitsR, Bool.and_self]) [↓rules, rules, ↓rulesDp, rulesDq, lit_u64, Int.ofNat_inj, stops, q_int, q_bool, q_geo_Geo, q_S_state_Slot, q_S_thing_Thing, q_state_State, q_cap_Cap, q_state_Slot, q_S_int, q_uint64, q_A4_uint64, q_thing_Thing, w1]
          exact ⟨by omega, M - (i + 1), by omega, i + 1, rfl, by omega, w3, by rw [hsi, hit, ← List.append_assoc]; exact inv4, kw4, s3, s4, by omega⟩
        | some u =>
          rw [hth2] at hit
          obtain ⟨hu1, hu2⟩ := throughS_in hcap hq3 hth2
          have q4 := (Kept.refl k3.dom).new (.row (cG u) true)
          have inv4 := hv.kept k3.dom i3 q4
          have kw4 := kw3.trans (KW.of q4)
          have s5 : gset g3 n3 (some (.row (cG u) true)) n = some (rowS a b c VS VT) := by rw [q4.same n (by omega)]; exact s3
          have s6 : gset g3 n3 (some (.row (cG u) true)) (n + 1) = some (.row [.int .i64 tyT, .int .i64 bitsT, .int .i64 baseT, .int .i64 sizeT, .int .i64 usedT, .int .i64 frmT, .int .i64 badgeT, .bool fullT, U wordT, U d0T, U d1T, U d2T, U d3T] true) := by rw [q4.same (n + 1) (by omega)]; exact s4
          have s7 : gset g3 n3 (some (.row (cG u) true)) n3 = some (.row (cG u) true) := by rw [gset, if_pos rfl]
          have atL4 := atL3.kw (KW.of q4)
          have hx4 := kw4.ext k1.dom (hx.trans (k1.ext hdom)) hob hw
          simp only [thrV, Option.getD_some, Option.isSome_some]
          by_cases hd : 1 ≤ d
          · have hc1 : (ahead.length : Int) + 1 < 3 := by omega
            have hc2 : ahead.length + 1 < 3 := by omega
            have hc3 : ahead.length < 2 := by omega
            have hc4 : (ahead.length : Int) < 2 := by omega
            have hih := IH u (ahead ++ [(i : Int)]) _ (log ++ WU i ++ [(ahead ++ [(i : Int)], (q : Int))]) w3 _ _ hd q4.dom (by omega) hx4 hw3 inv4 atL4 hu1 hu2 (by simp; omega) (by
              rw [hsi, hit] at hlog2
              simp only [List.length_append, List.length_cons, List.length_nil] at hlog2 ⊢
              omega)
            rw [show log ++ WU i ++ [(ahead ++ [(i : Int)], (q : Int))] ++ waysL ss ts d u (ahead ++ [(i : Int)]) = log ++ WU (i + 1) by rw [hsi, hit]; simp] at hih
            obtain ⟨tyU, bitsU, baseU, sizeU, usedU, frmU, badgeU, fullU, wordU, d0U, d1U, d2U, d3U⟩ := u
            simp only [cG] at s5 s6 s7 hih q4 kw4 ⊢
            have y4 : n ≠ n3 := by omega
            simp (maxSteps := 1000000) (disch := first | assumption | omega | rfl | decide | simp only [fitsR, Bool.and_self]) [↓rules, rules, ↓rulesDp, rulesDq, lit_u64, Int.ofNat_inj, stops, q_int, q_bool, q_geo_Geo, q_S_state_Slot, q_S_thing_Thing, q_state_State, q_cap_Cap, q_state_Slot, q_S_int, q_uint64, q_A4_uint64, q_thing_Thing, s3, y4, hc1, hc2, hc3, hc4]
            refine ⟨by omega, ?_⟩
            generalize gset g3 n3 _ = g4 at *
            refine rcall_spec hih rfl (fun z hz hzn => by show z = ob ∨ z = w; have hz : z = ob ∨ z = w3 := hz; omega) rfl fun v g5 n5 ⟨w5, i5, k5⟩ => ?_
            have s8 : g5 n = some (rowS a b c VS VT) := by rw [k5.same n (by omega) (by omega) (by omega)]; exact s5
            have s9 : g5 (n + 1) = some (.row [.int .i64 tyT, .int .i64 bitsT, .int .i64 baseT, .int .i64 sizeT, .int .i64 usedT, .int .i64 frmT, .int .i64 badgeT, .bool fullT, U wordT, U d0T, U d1T, U d2T, U d3T] true) := by rw [k5.same (n + 1) (by omega) (by omega) (by omega)]; exact s6
            have kw5 := kw4.trans k5
            simp (maxSteps := 1000000) (disch := first | assumption | omega | rfl | decide | simp only [fitsR, Bool.and_self]) [↓rules, rules, ↓rulesDp, rulesDq, lit_u64, Int.ofNat_inj, stops, q_int, q_bool, q_geo_Geo, q_S_state_Slot, q_S_thing_Thing, q_state_State, q_cap_Cap, q_state_Slot, q_S_int, q_uint64, q_A4_uint64, q_thing_Thing, w1]
            exact ⟨M - (i + 1), by omega, i + 1, rfl, by omega, w5, i5, kw5, s8, s9, by omega⟩
          · have hd0 : d = 0 := by omega
            subst hd0
            have hc1 : ¬ (ahead.length : Int) + 1 < 3 := by omega
            have hc2 : ¬ ahead.length + 1 < 3 := by omega
            have hc3 : ¬ ahead.length < 2 := by omega
            have hc4 : ¬ (ahead.length : Int) < 2 := by omega
            obtain ⟨tyU, bitsU, baseU, sizeU, usedU, frmU, badgeU, fullU, wordU, d0U, d1U, d2U, d3U⟩ := u
            simp only [cG] at s5 s6 s7 inv4 kw4 ⊢
            simp (maxSteps := 1000000) (disch := first | assumption | omega | rfl | decide | simp only [fitsR, Bool.and_self]) [↓rules, rules, ↓rulesDp, rulesDq, lit_u64, Int.ofNat_inj, stops, q_int, q_bool, q_geo_Geo, q_S_state_Slot, q_S_thing_Thing, q_state_State, q_cap_Cap, q_state_Slot, q_S_int, q_uint64, q_A4_uint64, q_thing_Thing, hc1, hc2, hc3, hc4, w1]
            exact ⟨by omega, M - (i + 1), by omega, i + 1, rfl, by omega, w3, by rw [hsi, hit, ← List.append_assoc]; exact inv4, kw4, s3, s4, by omega⟩
    · exact ⟨0, w, by simp, by simp, by rw [hWU0, List.append_nil]; exact hv.kept hdom hi0 k1, ⟨Nat.le_refl _, fun _ _ _ _ => rfl, Or.inl rfl, k1.dom⟩, r0, r1, by rfl⟩
end Go.Proofs.Ytkcahnefekkfaaa.F13W

namespace Go.Proofs.Ytkcahnefekkfaaa.F13W
open Go Go.Proofs Go.Proofs.YtkcahnefekkfaaaAbs
variable [Base]
set_option maxHeartbeats 8000000
set_option maxRecDepth 100000
/-! ### What is told of a slot -/
def VsOk (P : Value → List Int → Prop) : List Value → List (List Int) → Prop
  | [], [] => True
  | v :: vs, x :: xs => P v x ∧ VsOk P vs xs
  | _, _ => False
theorem VsOk.mono {P Q : Value → List Int → Prop} (h : ∀ v x, P v x → Q v x) : ∀ {vs xs}, VsOk P vs xs → VsOk Q vs xs
  | [], [], _ => trivial
  | _ :: _, _ :: _, h1 => ⟨h _ _ h1.1, VsOk.mono h h1.2⟩
  | [], _ :: _, h1 => h1.elim
  | _ :: _, [], h1 => h1.elim
theorem VsOk.snoc {P : Value → List Int → Prop} {v : Value} {x : List Int} (h : P v x) : ∀ {vs xs}, VsOk P vs xs → VsOk P (vs ++ [v]) (xs ++ [x])
  | [], [], _ => ⟨h, trivial⟩
  | _ :: _, _ :: _, h1 => ⟨h1.1, VsOk.snoc h h1.2⟩
  | [], _ :: _, h1 => h1.elim
  | _ :: _, [], h1 => h1.elim
theorem VsOk.len {P : Value → List Int → Prop} : ∀ {vs xs}, VsOk P vs xs → vs.length = xs.length
  | [], [], _ => rfl
  | _ :: _, _ :: _, h1 => by simp [VsOk.len h1.2]
  | [], _ :: _, h1 => h1.elim
  | _ :: _, [], h1 => h1.elim
theorem VsOk.get {P : Value → List Int → Prop} : ∀ {vs xs}, VsOk P vs xs → ∀ i (h1 : i < vs.length) (h2 : i < xs.length), P vs[i] xs[i]
  | _ :: _, _ :: _, h, 0, _, _ => h.1
  | _ :: _, _ :: _, h, i + 1, h1, h2 => VsOk.get h.2 i (by simpa using h1) (by simpa using h2)
  | [], _ :: _, h, _, _, _ => h.elim
  | _ :: _, [], h, _, _, _ => h.elim
  | [], [], _, i, h1, _ => by simp at h1
def sel (slot : Int) (log : List Ev) : List (List Int) := (log.filter fun x => decide (x.2 = slot)).map (·.1)
theorem sel_snoc (slot : Int) (log : List Ev) (xs : List Int) (a : Int) : sel slot (log ++ [(xs, a)]) = sel slot log ++ if a = slot then [xs] else [] := by
  unfold sel
  rw [List.filter_append, List.map_append]
  congr 1
  by_cases c : a = slot
  · rw [if_pos c]; simp [c]
  · rw [if_neg c]; simp [c]
def atP (ob w : Nat) (g : AMem) (v : Value) (x : List Int) : Prop := ∃ b, b ≠ ob ∧ b ≠ w ∧ v = .slice (some ⟨b, 0, none⟩) x.length 1 ∧ g b = some (.row (cI x) true)
def WInv (slot : Int) (sb ob : Nat) (log : List Ev) (w : Nat) (g : AMem) : Prop := sb ≠ ob ∧ sb ≠ w ∧ g sb = some (.row [.int .i64 slot] true) ∧ ∃ Vs, (Vs = [] ∧ w = ob ∧ g ob = some (.row [.slice none 0 0] true) ∨ w ≠ ob ∧ g ob = some (.row [.slice (some ⟨w, 0, none⟩) Vs.length 1] true) ∧ g w = some (.row Vs true)) ∧ VsOk (atP ob w g) Vs (sel slot log)
theorem kw_refl {ob w n : Nat} {g : AMem} (hd : ∀ i, g i ≠ none → i < n) : KW ob w w g n g n := ⟨Nat.le_refl _, fun _ _ _ _ => rfl, Or.inl rfl, hd⟩
theorem ways_vis (slot : Int) (sb ob : Nat) : Vis f_find_Ways_1 [.pointer (some ⟨sb, 0, none⟩), .pointer (some ⟨ob, 0, none⟩)] ob (WInv slot sb ob) where
  go := by kernel_rfl
  old := fun ⟨_, _, _, Vs, h, _⟩ => by
    rcases h with ⟨_, h1, h2⟩ | ⟨_, h1, h2⟩
    · subst h1; rw [h2]; simp
    · rw [h1, h2]; simp
  kept := fun {log w g n g' n'} hd ⟨a1, a2, a3, Vs, h, hv⟩ hk => by
    have sm : ∀ i o, g i = some o → g' i = some o := fun i o hi => by rw [hk.same i (hd i (by rw [hi]; simp))]; exact hi
    refine ⟨a1, a2, sm _ _ a3, Vs, ?_, hv.mono fun v x ⟨b, h1, h2, h3, h4⟩ => ⟨b, h1, h2, h3, sm _ _ h4⟩⟩
    rcases h with ⟨h0, h1, h2⟩ | ⟨h0, h1, h2⟩
    · exact Or.inl ⟨h0, h1, sm _ _ h2⟩
    · exact Or.inr ⟨h0, sm _ _ h1, sm _ _ h2⟩
  visit := fun {log w g n} V xs a hdom ⟨a1, a2, a3, Vs, h, hv⟩ ⟨b, hb1, hb2, hb3, hb4, hb5⟩ hlen => by
    subst hb4
    have obn := hdom ob (by rcases h with ⟨_, h1, h2⟩ | ⟨_, h1, h2⟩ <;> simp [*])
    have sbn := hdom sb (by rw [a3]; simp)
    refine fnS_of_rwp t_find_Ways_1 hm rfl hdom ?_
    have hss := sel_snoc slot log xs a
    by_cases c : a = slot
    case neg =>
      rw [if_neg c, List.append_nil] at hss
      simp (maxSteps := 1000000) (disch := first | assumption | omega | rfl | decide | simp only [fitsR, Bool.and_self]) [↓rules, rules, ↓rulesDp, rulesDq, lit_u64, Int.ofNat_inj, stops, rc_find_Ways_1, q_int, q_bool, q_S_int, q_path_Path, q_S_path_Path, a3, c]
      exact sdone_normal rfl ⟨w, ⟨a1, a2, a3, Vs, h, by rw [hss]; exact hv⟩, kw_refl hdom⟩
    rw [if_pos c] at hss
    have hvl := hv.len
    have hsl : (sel slot log).length ≤ 10000 := by
      unfold sel
      rw [List.length_map]
      exact Nat.le_trans (List.length_filter_le _ _) hlen
    have y1 : ob ≠ n := by omega
    have y2 : ob ≠ n + 1 := by omega
    subst c
    rcases h with ⟨rfl, rfl, h2⟩ | ⟨h0, h1, h2⟩
    · simp (maxSteps := 1000000) (disch := first | assumption | omega | rfl | decide | simp only [fitsR, Bool.and_self]) [↓rules, rules, ↓rulesDp, rulesDq, lit_u64, Int.ofNat_inj, stops, rc_find_Ways_1, q_int, q_bool, q_S_int, q_path_Path, q_S_path_Path, a3, h2, y1, y2]
      have sm : ∀ i o, i ≠ w → g i = some o → gset (gset (gset g n (some (.row [.slice (some ⟨b, 0, none⟩) xs.length 1] true))) (n + 1) (some (.row [.slice (some ⟨b, 0, none⟩) xs.length 1] true))) w (some (.row [.slice (some ⟨n + 1, 0, none⟩) 1 1] true)) i = some o := fun i o h1 h2 => by
        have := hdom i (by rw [h2]; simp)
        simp only [gset]
        rw [if_neg h1, if_neg (by omega), if_neg (by omega)]; exact h2
      refine sdone_normal rfl ⟨n + 1, ⟨a1, by omega, sm _ _ a1 a3, [.slice (some ⟨b, 0, none⟩) xs.length 1], Or.inr ⟨by omega, by rw [gset, if_pos rfl]; rfl, by rw [gset, if_neg (by omega), gset, if_pos rfl]⟩, ?_⟩, by omega, fun i hi h1 h2 => by simp only [gset]; rw [if_neg h1, if_neg (by omega), if_neg (by omega)], Or.inr (by omega), fun i hi => by
        by_cases c1 : i < n + 1 + 1
        · exact c1
        · simp only [gset] at hi
          repeat rw [if_neg (by omega)] at hi
          have := hdom i hi
          omega⟩
      rw [hss]
      have h0 : sel a log = [] := List.length_eq_zero_iff.1 (hvl.symm.trans rfl)
      rw [h0]
      exact ⟨⟨b, hb2, by omega, rfl, sm _ _ hb2 hb5⟩, trivial⟩
    · have wn := hdom w (by rw [h2]; simp)
      have y3 : ob ≠ w := fun e => h0 e.symm
      have y4 : w ≠ n := by omega
      have hsz : (Vs.length + 1) * 24 ≤ 70368744177664 := by omega
      have hsz2 : Vs.length ≤ 70368744177663 := by omega
      simp (maxSteps := 1000000) (disch := first | assumption | omega | rfl | decide | simp only [fitsR, Bool.and_self]) [↓rules, rules, ↓rulesDp, rulesDq, lit_u64, Int.ofNat_inj, stops, rc_find_Ways_1, q_int, q_bool, q_S_int, q_path_Path, q_S_path_Path, a3, h1, h2, y1, y2, y3, y4, hsz, hsz2]
      have sm : ∀ i o, i ≠ ob → i ≠ w → g i = some o → gset (gset (gset (gset g n (some (.row [.slice (some ⟨b, 0, none⟩) xs.length 1] true))) w none) (n + 1) (some (.row (Vs ++ [.slice (some ⟨b, 0, none⟩) xs.length 1]) true))) ob (some (.row [.slice (some ⟨n + 1, 0, none⟩) (Vs.length + 1) 1] true)) i = some o := fun i o h1 h3 h2 => by
        have := hdom i (by rw [h2]; simp)
        simp only [gset]
        rw [if_neg h1, if_neg (by omega), if_neg h3, if_neg (by omega)]; exact h2
      refine sdone_normal rfl ⟨n + 1, ⟨a1, by omega, sm _ _ a1 a2 a3, Vs ++ [.slice (some ⟨b, 0, none⟩) xs.length 1], Or.inr ⟨by omega, by rw [gset, if_pos rfl]; simp, by rw [gset, if_neg (by omega), gset, if_pos rfl]⟩, ?_⟩, by omega, fun i hi h1 h2 => by simp only [gset]; rw [if_neg h1, if_neg (by omega), if_neg h2, if_neg (by omega)], Or.inr (by omega), fun i hi => by
        by_cases c1 : i < n + 1 + 1
        · exact c1
        · simp only [gset] at hi
          repeat rw [if_neg (by omega)] at hi
          have := hdom i hi
          omega⟩
      rw [hss]
      refine VsOk.snoc ⟨b, hb2, by omega, rfl, sm _ _ hb2 hb3 hb5⟩ (hv.mono fun v x ⟨b', p1, p2, p3, p4⟩ => ⟨b', p1, ?_, p3, sm _ _ p1 p2 p4⟩)
      have := hdom b' (by rw [p4]; simp)
      omega
def RInv (ob : Nat) (log : List Ev) (w : Nat) (g : AMem) : Prop := log = [] ∧ w = ob ∧ g ob = some (.row [.slice none 0 0] true) ∨ w ≠ ob ∧ g ob = some (.row [.slice (some ⟨w, 0, none⟩) log.length 1] true) ∧ g w = some (.row (cI (log.map (·.2))) true)
theorem reach_vis (ob : Nat) : Vis f_find_Reach_1 [.pointer (some ⟨ob, 0, none⟩)] ob (RInv ob) where
  go := by kernel_rfl
  old := fun h => by
    rcases h with ⟨_, h1, h2⟩ | ⟨_, h1, h2⟩
    · subst h1; rw [h2]; simp
    · rw [h1, h2]; simp
  kept := fun {log w g n g' n'} hd h hk => by
    have sm : ∀ i o, g i = some o → g' i = some o := fun i o hi => by rw [hk.same i (hd i (by rw [hi]; simp))]; exact hi
    rcases h with ⟨h0, h1, h2⟩ | ⟨h0, h1, h2⟩
    · exact Or.inl ⟨h0, h1, sm _ _ h2⟩
    · exact Or.inr ⟨h0, sm _ _ h1, sm _ _ h2⟩
  visit := fun {log w g n} V xs a hdom h ⟨b, hb1, hb2, hb3, hb4, hb5⟩ hlen => by
    subst hb4
    have obn := hdom ob (by rcases h with ⟨_, h1, h2⟩ | ⟨_, h1, h2⟩ <;> simp [*])
    refine fnS_of_rwp t_find_Reach_1 hm rfl hdom ?_
    have y1 : ob ≠ n := by omega
    have y2 : ob ≠ n + 1 := by omega
    rcases h with ⟨rfl, rfl, h2⟩ | ⟨h0, h1, h2⟩
    · simp (maxSteps := 1000000) (disch := first | assumption | omega | rfl | decide | simp only [fitsR, Bool.and_self]) [↓rules, rules, ↓rulesDp, rulesDq, lit_u64, Int.ofNat_inj, stops, rc_find_Reach_1, q_int, q_S_int, h2, y1, y2]
      refine sdone_normal rfl ⟨n + 1, Or.inr ⟨by omega, by rw [gset, if_pos rfl]; rfl, by rw [gset, if_neg (by omega), gset, if_pos rfl]; rfl⟩, by omega, fun i hi h1 h2 => by simp only [gset]; rw [if_neg h1, if_neg (by omega), if_neg (by omega)], Or.inr (by omega), fun i hi => by
        by_cases c1 : i < n + 1 + 1
        · exact c1
        · simp only [gset] at hi
          repeat rw [if_neg (by omega)] at hi
          have := hdom i hi
          omega⟩
    · have wn := hdom w (by rw [h2]; simp)
      have y3 : ob ≠ w := fun e => h0 e.symm
      have y4 : w ≠ n := by omega
      have hsz : (log.length + 1) * 8 ≤ 70368744177664 := by omega
      have hsz2 : log.length ≤ 70368744177663 := by omega
      simp (maxSteps := 1000000) (disch := first | assumption | omega | rfl | decide | simp only [fitsR, Bool.and_self]) [↓rules, rules, ↓rulesDp, rulesDq, lit_u64, Int.ofNat_inj, stops, rc_find_Reach_1, q_int, q_S_int, h1, h2, y1, y2, y3, y4, hsz, hsz2]
      refine sdone_normal rfl ⟨n + 1, Or.inr ⟨by omega, by rw [gset, if_pos rfl]; simp, by rw [gset, if_neg (by omega), gset, if_pos rfl]; simp [cI]⟩, by omega, fun i hi h1 h2 => by simp only [gset]; rw [if_neg h1, if_neg (by omega), if_neg h2, if_neg (by omega)], Or.inr (by omega), fun i hi => by
        by_cases c1 : i < n + 1 + 1
        · exact c1
        · simp only [gset] at hi
          repeat rw [if_neg (by omega)] at hi
          have := hdom i hi
          omega⟩
end Go.Proofs.Ytkcahnefekkfaaa.F13W

namespace Go.Proofs.Ytkcahnefekkfaaa.F13W
open Go Go.Proofs
set_option maxRecDepth 100000
def lays189_ren : Go.Shelf.Ren :=
{
  f := fun x => match x with
    | 189 => 90
    | 125 => 106
    | 257 => 105
    | 128 => 124
    | 129 => 125
    | 294 => 115
    | 295 => 116
    | 296 => 117
    | 297 => 118
    | 298 => 119
    | 299 => 120
    | 216 => 121
    | 300 => 122
    | 301 => 123
    | 328 => 129
    | 329 => 130
    | 330 => 131
    | 331 => 132
    | 332 => 133
    | 215 => 134
    | 343 => 135
    | n => n,
  t := fun x => match x with
    | 28 => 35
    | 3 => 3
    | 46 => 47
    | 0 => 0
    | 51 => 144
    | 53 => 68
    | 4 => 4
    | 183 => 138
    | 182 => 137
    | 131 => 45
    | 5 => 5
    | 9 => 9
    | 218 => 146
    | 222 => 150
    | 228 => 152
    | 229 => 153
    | n => n,
  g := fun n => n }
theorem lays189 : Lays.n189 Try.prog lays189_ren :=
  { mixed := rfl, f125 := Try.func106.trans (congrArg some (by kernel_rfl)), f128 := Try.func124.trans (congrArg some (by kernel_rfl)), f129 := Try.func125.trans (congrArg some (by kernel_rfl)), f189 := Try.func90.trans (congrArg some (by kernel_rfl)), f215 := Try.func134.trans (congrArg some (by kernel_rfl)), f216 := Try.func121.trans (congrArg some (by kernel_rfl)), f257 := Try.func105.trans (congrArg some (by kernel_rfl)), f294 := Try.func115.trans (congrArg some (by kernel_rfl)), f295 := Try.func116.trans (congrArg some (by kernel_rfl)), f296 := Try.func117.trans (congrArg some (by kernel_rfl)), f297 := Try.func118.trans (congrArg some (by kernel_rfl)), f298 := Try.func119.trans (congrArg some (by kernel_rfl)), f299 := Try.func120.trans (congrArg some (by kernel_rfl)), f300 := Try.func122.trans (congrArg some (by kernel_rfl)), f301 := Try.func123.trans (congrArg some (by kernel_rfl)), f328 := Try.func129.trans (congrArg some (by kernel_rfl)), f329 := Try.func130.trans (congrArg some (by kernel_rfl)), f330 := Try.func131.trans (congrArg some (by kernel_rfl)), f331 := Try.func132.trans (congrArg some (by kernel_rfl)), f332 := Try.func133.trans (congrArg some (by kernel_rfl)), f343 := Try.func135.trans (congrArg some (by kernel_rfl)), t0 := Try.underlying0, a0 := Try.isAgg0, z0 := Try.sizeOf0, v0 := Try.zeroValue0, t3 := Try.underlying3, a3 := Try.isAgg3, z3 := Try.sizeOf3, v3 := Try.zeroValue3, t4 := Try.underlying4, a4 := Try.isAgg4, z4 := Try.sizeOf4, v4 := Try.zeroValue4, t5 := Try.underlying5, a5 := Try.isAgg5, z5 := Try.sizeOf5, v5 := Try.zeroValue5, t9 := Try.underlying9, a9 := Try.isAgg9, z9 := Try.sizeOf9, v9 := Try.zeroValue9, t28 := Try.underlying35, a28 := Try.isAgg35, z28 := Try.sizeOf35, v28 := Try.zeroValue35, t46 := Try.underlying47, a46 := Try.isAgg47, z46 := Try.sizeOf47, v46 := Try.zeroValue47, t51 := Try.underlying144, a51 := Try.isAgg144, z51 := Try.sizeOf144, v51 := Try.zeroValue144, t53 := Try.underlying68, a53 := Try.isAgg68, z53 := Try.sizeOf68, v53 := Try.zeroValue68, t131 := Try.underlying45, a131 := Try.isAgg45, z131 := Try.sizeOf45, v131 := Try.zeroValue45, t182 := Try.underlying137, a182 := Try.isAgg137, z182 := Try.sizeOf137, v182 := Try.zeroValue137, t183 := Try.underlying138, a183 := Try.isAgg138, z183 := Try.sizeOf138, v183 := Try.zeroValue138, t218 := Try.underlying146, a218 := Try.isAgg146, z218 := Try.sizeOf146, v218 := Try.zeroValue146, t222 := Try.underlying150, a222 := Try.isAgg150, z222 := Try.sizeOf150, v222 := Try.zeroValue150, t228 := Try.underlying152, a228 := Try.isAgg152, z228 := Try.sizeOf152, v228 := Try.zeroValue152, t229 := Try.underlying153, a229 := Try.isAgg153, z229 := Try.sizeOf153, v229 := Try.zeroValue153 }
end Go.Proofs.Ytkcahnefekkfaaa.F13W

namespace Go.Proofs.Ytkcahnefekkfaaa.F13W
open Go Go.Proofs
set_option maxRecDepth 100000
def lays220_ren : Go.Shelf.Ren :=
{
  f := fun x => match x with
    | 20 => 91
    | n => n,
  t := fun x => match x with
    | 22 => 35
    | 3 => 3
    | 4 => 4
    | 0 => 0
    | n => n,
  g := fun n => n }
theorem lays220 : Lays2.n20 Try.prog lays220_ren :=
  { mixed := rfl, f20 := Try.func91.trans (congrArg some (by kernel_rfl)), t0 := Try.underlying0, a0 := Try.isAgg0, z0 := Try.sizeOf0, v0 := Try.zeroValue0, t3 := Try.underlying3, a3 := Try.isAgg3, z3 := Try.sizeOf3, v3 := Try.zeroValue3, t4 := Try.underlying4, a4 := Try.isAgg4, z4 := Try.sizeOf4, v4 := Try.zeroValue4, t22 := Try.underlying35, a22 := Try.isAgg35, z22 := Try.sizeOf35, v22 := Try.zeroValue35, i3 := Eq.refl (some (some (Value.int IntKind.i64 0), 1, 8)) }
end Go.Proofs.Ytkcahnefekkfaaa.F13W

namespace Go.Proofs.Ytkcahnefekkfaaa.F13W
open Go Go.Proofs Go.Proofs.YtkcahnefekkfaaaAbs
variable [Base]
set_option maxHeartbeats 8000000
set_option maxRecDepth 100000
/-! ### Sorting, striking doubles: out of the kit's shelf -/
theorem slices_SortI {b m : Nat} {zs : List Int} {g : AMem} {n : Nat} (hg : g b = some (.row (cI zs) true)) (hm : m = zs.length) (hl : zs.length ≤ 100000) :
    FnC Try.prog f_slices_Sort_S_int_int [.slice (some ⟨b, 0, none⟩) m 1] g n (fun i => i = b) (.tuple #[]) (gset g b (some (.row (cI (sortI zs)) true))) n :=
  fnC_of_sort (by kernel_rfl) hg hm (by simp [sortI]) fun blk cap w hH hb => Any.slices_Sort_int lays189 blk 0 cap zs w hH hb (by omega)
theorem slices_CompactI {b m : Nat} {zs : List Int} {g : AMem} {n : Nat} (hg : g b = some (.row (cI zs) true)) (hm : m = zs.length) (hl : zs.length ≤ 100000) :
    FnC Try.prog f_slices_Compact_S_int_int [.slice (some ⟨b, 0, none⟩) m 1] g n (fun i => i = b) (.slice (some ⟨b, 0, none⟩) (Go.Lib.compact zs).length 1) (gset g b (some (.row (cI (Go.Lib.compact zs ++ List.replicate (zs.length - (Go.Lib.compact zs).length) 0)) true))) n := by
  have hcl : (Go.Lib.compact zs).length ≤ zs.length := by
    unfold Go.Lib.compact Go.Lib.compactUpTo
    rw [List.length_map]
    exact Nat.le_trans (List.length_filter_le _ _) (by simp)
  refine fnC_of_compact (by kernel_rfl) hg hm (by simp; omega) hcl fun blk cap w hH hb hcap => (Any.slices_Compact_int lays220 blk 0 cap zs w hH (by omega) hcap).mono fun e w' ⟨h1, q, h2⟩ => ⟨h1, q, #[], ?_⟩
  rw [h2]
  unfold Go.Sort.grow
  rw [Array.append_empty]
theorem mem_compact {zs : List Int} {x : Int} : x ∈ Go.Lib.compact zs ↔ x ∈ zs := by
  unfold Go.Lib.compact Go.Lib.compactUpTo
  constructor
  · intro h
    obtain ⟨i, hi, rfl⟩ := List.mem_map.1 h
    have hi' : i < zs.length := List.mem_range.1 (List.mem_filter.1 hi).1
    simp [getElem!_pos, hi']
  · intro h
    have key : ∀ j, j < zs.length → zs.toArray[j]! ∈ ((List.range zs.length).filter (Go.Lib.keeps zs.toArray)).map (zs.toArray[·]!) := fun j => by
      induction j with
      | zero => intro hj; exact List.mem_map.2 ⟨0, List.mem_filter.2 ⟨List.mem_range.2 hj, by simp [Go.Lib.keeps]⟩, rfl⟩
      | succ j ih =>
        intro hj
        by_cases c : zs.toArray[j + 1]! = zs.toArray[j]!
        · rw [c]; exact ih (by omega)
        · exact List.mem_map.2 ⟨j + 1, List.mem_filter.2 ⟨List.mem_range.2 hj, Go.Lib.keeps_pos c⟩, rfl⟩
    obtain ⟨j, hj, rfl⟩ := List.getElem_of_mem h
    have := key j hj
    rwa [getElem!_pos zs.toArray j (by simpa using hj)] at this
theorem mem_sortI {zs : List Int} {x : Int} : x ∈ sortI zs ↔ x ∈ zs := by
  simp [sortI]
end Go.Proofs.Ytkcahnefekkfaaa.F13W

namespace Go.Proofs.Ytkcahnefekkfaaa.F13W
open Go Go.Proofs Go.Proofs.YtkcahnefekkfaaaAbs
variable [Base]
set_option maxHeartbeats 8000000
set_option maxRecDepth 100000
def bW : Nat → Nat
  | 0 => 0
  | d + 1 => 16 * (1 + bW d)
theorem waysL_len {a b c : Int} {ss : List Sl} {ts : List Tg} (hg : goodS a b c ss ts = true) : ∀ (d : Nat) (t : Tg) (ahead : List Int), t ∈ ts → t.ty = 2 → (waysL ss ts d t ahead).length ≤ bW d
  | 0, _, _, _, _ => Nat.le_refl _
  | d + 1, t, ahead, ht, h2 => by
    obtain ⟨_, _, _, hcap, hth, hno, _⟩ := goodS_parts hg
    obtain ⟨b0, b1, b2, b3⟩ := things_node hth t ht h2
    have hin := nodesS_in hno ht h2
    have h16 : 2 ^ t.bits.toNat ≤ 16 := Nat.pow_le_pow_right (n := 2) (j := 4) (by omega) (by omega)
    have key : ∀ m, m ≤ 2 ^ t.bits.toNat → (wUpto (waysL ss ts d) ss ts t ahead m).length ≤ m * (1 + bW d) := fun m => by
      induction m with
      | zero => intro _; simp [wUpto]
      | succ m ih =>
        intro hm
        have ih := ih (by omega)
        rw [wUpto_succ, List.length_append, Nat.succ_mul]
        have : (wItem (waysL ss ts d) ss ts t ahead m).length ≤ 1 + bW d := by
          unfold wItem
          obtain ⟨q, hq⟩ : ∃ q : Nat, t.base + m = q := ⟨(t.base + m).toNat, by omega⟩
          cases e : throughS ss ts (t.base + m) with
          | none => simp
          | some u =>
            have hui := throughS_in hcap (k := q) (by omega) (by rw [← hq]; exact e)
            have := waysL_len hg d u (ahead ++ [(m : Int)]) hui.1 hui.2
            simp only [List.length_cons]; omega
        omega
    have := key _ (Nat.le_refl _)
    have e : (waysL ss ts (d + 1) t ahead).length = (wUpto (waysL ss ts d) ss ts t ahead (2 ^ t.bits.toNat)).length := rfl
    rw [e, bW]
    exact Nat.le_trans this (Nat.mul_le_mul_right _ h16)
/-- All ways of a thread, and where each leads. -/
def allW (a b c : Int) (ss : List Sl) (ts : List Tg) (th : Int) : List Ev := if goodS a b c ss ts = true ∧ 0 ≤ th ∧ th ≤ a - 1 then waysL ss ts 3 (tgAt ts (2 + th)) [] else []
theorem allW_len (a b c : Int) (ss : List Sl) (ts : List Tg) (th : Int) : (allW a b c ss ts th).length ≤ 10000 := by
  unfold allW
  split
  · rename_i h
    obtain ⟨q, rfl⟩ : ∃ q : Nat, th = q := ⟨th.toNat, by omega⟩
    obtain ⟨hql, hq2⟩ := root_node h.1 (q := q) (by omega)
    rw [show (2 : Int) + q = (2 + q : Nat) by omega, tgAt_nat hql]
    exact Nat.le_trans (waysL_len h.1 3 _ [] (List.getElem_mem hql) hq2) (by decide)
  · exact Nat.zero_le _
def rowP (g : AMem) (v : Value) (x : List Int) : Prop := ∃ b, v = .slice (some ⟨b, 0, none⟩) x.length 1 ∧ g b = some (.row (cI x) true)
def rdWays (g : AMem) (v : Value) (xs : List (List Int)) : Prop := ∃ Vs, (v = .slice none 0 0 ∧ Vs = [] ∨ ∃ w, v = .slice (some ⟨w, 0, none⟩) Vs.length 1 ∧ g w = some (.row Vs true)) ∧ VsOk (rowP g) Vs xs
theorem find_Ways (a b c : Int) (VS VT : Value) (ss : List Sl) (ts : List Tg) (th slot : Int) (g : AMem) (n : Nat) (hdom : ∀ i, g i ≠ none → i < n) (hl : ss.length ≤ 100000) (hl2 : ts.length ≤ 100000) (hs : rdS g VS ss) (ht : rdG g VT ts) :
    FnS Try.prog f_find_Ways [sv a b c VS VT, .int .i64 th, .int .i64 slot] g n (fun _ => False) fun v g' n' => rdWays g' v (sel slot (allW a b c ss ts th)) ∧ Kept g n g' n' := by
  refine fnS_of_rwp t_find_Ways hm rfl hdom ?_
  have k1 : Kept g n (gset (gset (gset g n (some (rowS a b c VS VT))) (n + 1) (some (.row [.int .i64 slot] true))) (n + 1 + 1) (some (.row [.slice none 0 0] true))) (n + 1 + 1 + 1) := (by repeat first | exact Kept.refl hdom | refine Kept.new ?_ _ | refine Kept.drop ?_ (by omega) | refine Kept.put ?_ (by omega) (by omega) _ | refine Kept.skip ?_)
  have hs1 := hs.ext (k1.ext hdom)
  have ht1 := ht.ext (k1.ext hdom)
  have r0 : gset (gset (gset g n (some (rowS a b c VS VT))) (n + 1) (some (.row [.int .i64 slot] true))) (n + 1 + 1) (some (.row [.slice none 0 0] true)) n = some (rowS a b c VS VT) := by rw [gset, if_neg (by omega), gset, if_neg (by omega), gset, if_pos rfl]
  have r1 : gset (gset (gset g n (some (rowS a b c VS VT))) (n + 1) (some (.row [.int .i64 slot] true))) (n + 1 + 1) (some (.row [.slice none 0 0] true)) (n + 1) = some (.row [.int .i64 slot] true) := by rw [gset, if_neg (by omega), gset, if_pos rfl]
  have r2 : gset (gset (gset g n (some (rowS a b c VS VT))) (n + 1) (some (.row [.int .i64 slot] true))) (n + 1 + 1) (some (.row [.slice none 0 0] true)) (n + 1 + 1) = some (.row [.slice none 0 0] true) := by rw [gset, if_pos rfl]
  simp (maxSteps := 1000000) (disch := first | assumption | omega | rfl | decide | simp only [fitsR, Bool.and_self]) [↓rules, rules, ↓rulesDp, rulesDq, lit_u64, Int.ofNat_inj, stops, rc_find_Ways, q_int, q_bool, q_geo_Geo, q_S_state_Slot, q_S_thing_Thing, q_state_State, q_cap_Cap, q_state_Slot, q_S_int, q_path_Path, q_uint64, q_A4_uint64, q_thing_Thing, q_S_path_Path]
  generalize gset (gset (gset g n (some (rowS a b c VS VT))) (n + 1) (some (.row [.int .i64 slot] true))) (n + 1 + 1) (some (.row [.slice none 0 0] true)) = G at *
  refine rcall_quiet rfl (state_Good a b c VS VT ss ts _ _ hl hl2 hs1 ht1) ?_
  cases hgd : goodS a b c ss ts
  · have ha : allW a b c ss ts th = [] := if_neg (by rw [hgd]; simp)
    rw [ha]
    simp (maxSteps := 1000000) (disch := first | assumption | omega | rfl | decide | simp only [fitsR, Bool.and_self]) [↓rules, rules, ↓rulesDp, rulesDq, lit_u64, Int.ofNat_inj, stops, q_int, q_bool, q_geo_Geo, q_S_state_Slot, q_S_thing_Thing, q_state_State, q_cap_Cap, q_state_Slot, q_S_int, q_path_Path, q_uint64, q_A4_uint64, q_thing_Thing, q_S_path_Path]
    exact sdone_ret rfl ⟨⟨[], Or.inl ⟨rfl, rfl⟩, trivial⟩, k1⟩
  obtain ⟨hg, _, hcl, hcap, hth, hno, _⟩ := goodS_parts hgd
  obtain ⟨g1, g2, g3⟩ := goodG_a hg
  have w0 : IntKind.i64.wrap (a - 1) = a - 1 := wrap_i64 (by omega) (by omega)
  simp (maxSteps := 1000000) (disch := first | assumption | omega | rfl | decide | simp only [fitsR, Bool.and_self]) [↓rules, rules, ↓rulesDp, rulesDq, lit_u64, Int.ofNat_inj, stops, q_int, q_bool, q_geo_Geo, q_S_state_Slot, q_S_thing_Thing, q_state_State, q_cap_Cap, q_state_Slot, q_S_int, q_path_Path, q_uint64, q_A4_uint64, q_thing_Thing, q_S_path_Path, r0, w0]
  refine rcall_quiet rfl (find_in th 0 (a - 1) _ _) ?_
  by_cases c1 : 0 ≤ th ∧ th ≤ a - 1
  case neg =>
    have ha : allW a b c ss ts th = [] := if_neg (fun h => c1 h.2)
    rw [ha, decide_eq_false c1]
    simp (maxSteps := 1000000) (disch := first | assumption | omega | rfl | decide | simp only [fitsR, Bool.and_self]) [↓rules, rules, ↓rulesDp, rulesDq, lit_u64, Int.ofNat_inj, stops, q_int, q_bool, q_geo_Geo, q_S_state_Slot, q_S_thing_Thing, q_state_State, q_cap_Cap, q_state_Slot, q_S_int, q_path_Path, q_uint64, q_A4_uint64, q_thing_Thing, q_S_path_Path]
    exact sdone_ret rfl ⟨⟨[], Or.inl ⟨rfl, rfl⟩, trivial⟩, k1⟩
  have hlen := allW_len a b c ss ts th
  have ha : allW a b c ss ts th = waysL ss ts 3 (tgAt ts (2 + th)) [] := if_pos ⟨hgd, c1⟩
  rw [ha] at hlen ⊢
  rw [decide_eq_true c1]
  obtain ⟨q, rfl⟩ : ∃ q : Nat, th = q := ⟨th.toNat, by omega⟩
  obtain ⟨hql, hq2⟩ := root_node hgd (q := q) (by omega)
  have w1 : IntKind.i64.wrap (2 + (q : Int)) = ((2 + q : Nat) : Int) := by rw [wrap_i64 (by omega) (by omega)]; omega
  rw [show (2 : Int) + q = (2 + q : Nat) by omega, tgAt_nat hql] at hlen ⊢
  obtain ⟨b3, o3, f3, _, f4⟩ := rd_big ht1 cG_len hql
  have e3 := f4 G (Ext.refl _) Try.prog _ ta_thing_Thing ts_thing_Thing
  have hql' : ((2 + q : Nat) : Int) < ts.length := by omega
  have hin : ts[2 + q] ∈ ts := List.getElem_mem hql
  generalize hy : ts[2 + q] = t0 at *
  generalize hQ : 2 + q = Q at *
  have hr0 := r0
  rw [f3] at hr0
  have hno2 : g (n + 1 + 1) = none := by
    cases e : g (n + 1 + 1) with
    | none => rfl
    | some o => have := hdom (n + 1 + 1) (by rw [e]; simp); omega
  have hfw := find_ways (ways_vis slot (n + 1) (n + 1 + 1)) a b c VS VT ss ts hgd g n hdom hs ht hno2 2 t0 [] (.slice none 0 0) [] (n + 1 + 1) G (n + 1 + 1 + 1) k1.dom (by omega) (k1.ext hdom) hno2 ⟨by omega, by omega, r1, [], Or.inl ⟨rfl, rfl, r2⟩, trivial⟩ (Or.inl ⟨rfl, rfl⟩) hin hq2 rfl (by simpa using hlen)
  rw [List.nil_append] at hfw
  generalize waysL ss ts 3 t0 [] = W at *
  simp (maxSteps := 1000000) (disch := first | assumption | omega | rfl | decide | simp only [fitsR, Bool.and_self]) [↓rules, rules, ↓rulesDp, rulesDq, lit_u64, Int.ofNat_inj, stops, q_int, q_bool, q_geo_Geo, q_S_state_Slot, q_S_thing_Thing, q_state_State, q_cap_Cap, q_state_Slot, q_S_int, q_path_Path, q_uint64, q_A4_uint64, q_thing_Thing, q_S_path_Path, hr0, w1, hql', e3]
  rw [← f3]
  refine rcall_spec hfw rfl (fun z hz => by show n ≤ z; have hz : z = n + 1 + 1 ∨ z = n + 1 + 1 := hz; omega) rfl fun v g5 n5 ⟨w5, i5, kw⟩ => ?_
  have l5 := kw.le
  have k5 : Kept g n g5 n5 := ⟨by omega, fun i hi => by rw [kw.same i (by omega) (by omega) (by omega)]; exact k1.same i hi, kw.dom⟩
  obtain ⟨_, _, _, Vs, hV, hvs⟩ := i5
  have hvs2 : VsOk (rowP g5) Vs (sel slot W) := hvs.mono fun v x ⟨b, _, _, h3, h4⟩ => ⟨b, h3, h4⟩
  rcases hV with ⟨rfl, _, h2⟩ | ⟨_, h1, h2⟩
  · simp (maxSteps := 1000000) (disch := first | assumption | omega | rfl | decide | simp only [fitsR, Bool.and_self]) [↓rules, rules, ↓rulesDp, rulesDq, lit_u64, Int.ofNat_inj, stops, q_int, q_bool, q_geo_Geo, q_S_state_Slot, q_S_thing_Thing, q_state_State, q_cap_Cap, q_state_Slot, q_S_int, q_path_Path, q_uint64, q_A4_uint64, q_thing_Thing, q_S_path_Path, h2]
    exact sdone_ret rfl ⟨⟨[], Or.inl ⟨rfl, rfl⟩, hvs2⟩, k5⟩
  · simp (maxSteps := 1000000) (disch := first | assumption | omega | rfl | decide | simp only [fitsR, Bool.and_self]) [↓rules, rules, ↓rulesDp, rulesDq, lit_u64, Int.ofNat_inj, stops, q_int, q_bool, q_geo_Geo, q_S_state_Slot, q_S_thing_Thing, q_state_State, q_cap_Cap, q_state_Slot, q_S_int, q_path_Path, q_uint64, q_A4_uint64, q_thing_Thing, q_S_path_Path, h1]
    exact sdone_ret rfl ⟨⟨Vs, Or.inr ⟨w5, rfl, h2⟩, hvs2⟩, k5⟩
theorem ways_ne {ss : List Sl} {ts : List Tg} {d : Nat} {t : Tg} {ahead : List Int} : waysL ss ts (d + 1) t ahead ≠ [] := fun h => by
  have e : waysL ss ts (d + 1) t ahead = wUpto (waysL ss ts d) ss ts t ahead (2 ^ t.bits.toNat) := rfl
  obtain ⟨m, hm⟩ : ∃ m, 2 ^ t.bits.toNat = m + 1 := ⟨2 ^ t.bits.toNat - 1, by have := Nat.two_pow_pos t.bits.toNat; omega⟩
  rw [e, hm, wUpto_succ] at h
  have := (List.append_eq_nil_iff.1 h).2
  exact absurd this (by simp [wItem])
theorem rdI_cut {g : AMem} {b : Nat} {xs ys : List Int} (h : g b = some (.row (cI (xs ++ ys)) true)) : rdI g (.slice (some ⟨b, 0, none⟩) xs.length 1) xs := by
  show aRead g 1 _ = some (xs.length, xs.flatMap fun x => [Value.int .i64 x])
  rw [aRead_at, h, readR_row, flatI]
  by_cases h0 : xs.length = 0
  · rw [if_pos h0]
    have := List.length_eq_zero_iff.1 h0
    subst this; rfl
  · rw [if_neg h0, if_pos (by simp [cI])]
    simp [cI]
theorem find_Reach (a b c : Int) (VS VT : Value) (ss : List Sl) (ts : List Tg) (th : Int) (g : AMem) (n : Nat) (hdom : ∀ i, g i ≠ none → i < n) (hl : ss.length ≤ 100000) (hl2 : ts.length ≤ 100000) (hs : rdS g VS ss) (ht : rdG g VT ts) :
    FnS Try.prog f_find_Reach [sv a b c VS VT, .int .i64 th] g n (fun _ => False) fun v g' n' => (∃ xs, rdI g' v xs ∧ xs.length ≤ 10000 ∧ ∀ x, x ∈ xs ↔ x ∈ (allW a b c ss ts th).map (·.2)) ∧ Kept g n g' n' := by
  refine fnS_of_rwp t_find_Reach hm rfl hdom ?_
  have k1 : Kept g n (gset (gset g n (some (rowS a b c VS VT))) (n + 1) (some (.row [.slice none 0 0] true))) (n + 1 + 1) := (by repeat first | exact Kept.refl hdom | refine Kept.new ?_ _ | refine Kept.drop ?_ (by omega) | refine Kept.put ?_ (by omega) (by omega) _ | refine Kept.skip ?_)
  have hs1 := hs.ext (k1.ext hdom)
  have ht1 := ht.ext (k1.ext hdom)
  have r0 : gset (gset g n (some (rowS a b c VS VT))) (n + 1) (some (.row [.slice none 0 0] true)) n = some (rowS a b c VS VT) := by rw [gset, if_neg (by omega), gset, if_pos rfl]
  have r2 : gset (gset g n (some (rowS a b c VS VT))) (n + 1) (some (.row [.slice none 0 0] true)) (n + 1) = some (.row [.slice none 0 0] true) := by rw [gset, if_pos rfl]
  simp (maxSteps := 1000000) (disch := first | assumption | omega | rfl | decide | simp only [fitsR, Bool.and_self]) [↓rules, rules, ↓rulesDp, rulesDq, lit_u64, Int.ofNat_inj, stops, rc_find_Reach, q_int, q_bool, q_geo_Geo, q_S_state_Slot, q_S_thing_Thing, q_state_State, q_cap_Cap, q_state_Slot, q_S_int, q_uint64, q_A4_uint64, q_thing_Thing]
  generalize gset (gset g n (some (rowS a b c VS VT))) (n + 1) (some (.row [.slice none 0 0] true)) = G at *
  refine rcall_quiet rfl (state_Good a b c VS VT ss ts _ _ hl hl2 hs1 ht1) ?_
  have hnil : ∀ g, rdI g (.slice none 0 0) [] := fun g => Gi.rd (n := 0) (Or.inl ⟨rfl, rfl⟩)
  cases hgd : goodS a b c ss ts
  · have ha : allW a b c ss ts th = [] := if_neg (by rw [hgd]; simp)
    rw [ha]
    simp (maxSteps := 1000000) (disch := first | assumption | omega | rfl | decide | simp only [fitsR, Bool.and_self]) [↓rules, rules, ↓rulesDp, rulesDq, lit_u64, Int.ofNat_inj, stops, q_int, q_bool, q_geo_Geo, q_S_state_Slot, q_S_thing_Thing, q_state_State, q_cap_Cap, q_state_Slot, q_S_int, q_uint64, q_A4_uint64, q_thing_Thing]
    exact sdone_ret rfl ⟨⟨[], hnil _, by simp, by simp⟩, k1⟩
  obtain ⟨hg, _, hcl, hcap, hth, hno, _⟩ := goodS_parts hgd
  obtain ⟨g1, g2, g3⟩ := goodG_a hg
  have w0 : IntKind.i64.wrap (a - 1) = a - 1 := wrap_i64 (by omega) (by omega)
  simp (maxSteps := 1000000) (disch := first | assumption | omega | rfl | decide | simp only [fitsR, Bool.and_self]) [↓rules, rules, ↓rulesDp, rulesDq, lit_u64, Int.ofNat_inj, stops, q_int, q_bool, q_geo_Geo, q_S_state_Slot, q_S_thing_Thing, q_state_State, q_cap_Cap, q_state_Slot, q_S_int, q_uint64, q_A4_uint64, q_thing_Thing, r0, w0]
  refine rcall_quiet rfl (find_in th 0 (a - 1) _ _) ?_
  by_cases c1 : 0 ≤ th ∧ th ≤ a - 1
  case neg =>
    have ha : allW a b c ss ts th = [] := if_neg (fun h => c1 h.2)
    rw [ha, decide_eq_false c1]
    simp (maxSteps := 1000000) (disch := first | assumption | omega | rfl | decide | simp only [fitsR, Bool.and_self]) [↓rules, rules, ↓rulesDp, rulesDq, lit_u64, Int.ofNat_inj, stops, q_int, q_bool, q_geo_Geo, q_S_state_Slot, q_S_thing_Thing, q_state_State, q_cap_Cap, q_state_Slot, q_S_int, q_uint64, q_A4_uint64, q_thing_Thing]
    exact sdone_ret rfl ⟨⟨[], hnil _, by simp, by simp⟩, k1⟩
  have hlen := allW_len a b c ss ts th
  have ha : allW a b c ss ts th = waysL ss ts 3 (tgAt ts (2 + th)) [] := if_pos ⟨hgd, c1⟩
  rw [ha] at hlen ⊢
  rw [decide_eq_true c1]
  obtain ⟨q, rfl⟩ : ∃ q : Nat, th = q := ⟨th.toNat, by omega⟩
  obtain ⟨hql, hq2⟩ := root_node hgd (q := q) (by omega)
  have w1 : IntKind.i64.wrap (2 + (q : Int)) = ((2 + q : Nat) : Int) := by rw [wrap_i64 (by omega) (by omega)]; omega
  rw [show (2 : Int) + q = (2 + q : Nat) by omega, tgAt_nat hql] at hlen ⊢
  obtain ⟨b3, o3, f3, _, f4⟩ := rd_big ht1 cG_len hql
  have e3 := f4 G (Ext.refl _) Try.prog _ ta_thing_Thing ts_thing_Thing
  have hql' : ((2 + q : Nat) : Int) < ts.length := by omega
  have hin : ts[2 + q] ∈ ts := List.getElem_mem hql
  generalize hy : ts[2 + q] = t0 at *
  generalize hQ : 2 + q = Q at *
  have hr0 := r0
  rw [f3] at hr0
  have hno2 : g (n + 1) = none := by
    cases e : g (n + 1) with
    | none => rfl
    | some o => have := hdom (n + 1) (by rw [e]; simp); omega
  have hfw := find_ways (reach_vis (n + 1)) a b c VS VT ss ts hgd g n hdom hs ht hno2 2 t0 [] (.slice none 0 0) [] (n + 1) G (n + 1 + 1) k1.dom (by omega) (k1.ext hdom) hno2 (Or.inl ⟨rfl, rfl, r2⟩) (Or.inl ⟨rfl, rfl⟩) hin hq2 rfl (by simpa using hlen)
  rw [List.nil_append] at hfw
  have hWne : waysL ss ts 3 t0 [] ≠ [] := ways_ne
  generalize waysL ss ts 3 t0 [] = W at *
  simp (maxSteps := 1000000) (disch := first | assumption | omega | rfl | decide | simp only [fitsR, Bool.and_self]) [↓rules, rules, ↓rulesDp, rulesDq, lit_u64, Int.ofNat_inj, stops, q_int, q_bool, q_geo_Geo, q_S_state_Slot, q_S_thing_Thing, q_state_State, q_cap_Cap, q_state_Slot, q_S_int, q_uint64, q_A4_uint64, q_thing_Thing, hr0, w1, hql', e3]
  rw [← f3]
  refine rcall_spec hfw rfl (fun z hz => by show n ≤ z; have hz : z = n + 1 ∨ z = n + 1 := hz; omega) rfl fun v g5 n5 ⟨w5, i5, kw⟩ => ?_
  have l5 := kw.le
  have n5' := kw.new
  have k5 : Kept g n g5 n5 := ⟨by omega, fun i hi => by rw [kw.same i (by omega) (by omega) (by omega)]; exact k1.same i hi, kw.dom⟩
  rcases i5 with ⟨rfl, _, h2⟩ | ⟨h0, h1, h2⟩
  · exact absurd rfl hWne
  · have w5n := kw.dom w5 (by rw [h2]; simp)
    simp (maxSteps := 1000000) (disch := first | assumption | omega | rfl | decide | simp only [fitsR, Bool.and_self]) [↓rules, rules, ↓rulesDp, rulesDq, lit_u64, Int.ofNat_inj, stops, q_int, q_bool, q_geo_Geo, q_S_state_Slot, q_S_thing_Thing, q_state_State, q_cap_Cap, q_state_Slot, q_S_int, q_uint64, q_A4_uint64, q_thing_Thing, h1]
    refine rcall_new rfl (slices_SortI h2 (by simp) (by simp; omega)) (fun z hz => by show n ≤ z; have hz : z = w5 := hz; omega) rfl ?_
    have h1' : gset g5 w5 (some (.row (cI (sortI (W.map (·.2)))) true)) (n + 1) = some (.row [.slice (some ⟨w5, 0, none⟩) W.length 1] true) := by rw [gset, if_neg (by omega)]; exact h1
    have h2' : gset g5 w5 (some (.row (cI (sortI (W.map (·.2)))) true)) w5 = some (.row (cI (sortI (W.map (·.2)))) true) := by rw [gset, if_pos rfl]
    have k6 : Kept g n (gset g5 w5 (some (.row (cI (sortI (W.map (·.2)))) true))) n5 := k5.put (by omega) (by omega) _
    generalize gset g5 w5 _ = g6 at *
    have hsl : (sortI (W.map (·.2))).length = W.length := by simp [sortI]
    simp (maxSteps := 1000000) (disch := first | assumption | omega | rfl | decide | simp only [fitsR, Bool.and_self]) [↓rules, rules, ↓rulesDp, rulesDq, lit_u64, Int.ofNat_inj, stops, q_int, q_bool, q_geo_Geo, q_S_state_Slot, q_S_thing_Thing, q_state_State, q_cap_Cap, q_state_Slot, q_S_int, q_uint64, q_A4_uint64, q_thing_Thing, h1']
    refine rcall_new rfl (slices_CompactI h2' hsl.symm (by omega)) (fun z hz => by show n ≤ z; have hz : z = w5 := hz; omega) rfl ?_
    simp (maxSteps := 1000000) (disch := first | assumption | omega | rfl | decide | simp only [fitsR, Bool.and_self]) [↓rules, rules, ↓rulesDp, rulesDq, lit_u64, Int.ofNat_inj, stops, q_int, q_bool, q_geo_Geo, q_S_state_Slot, q_S_thing_Thing, q_state_State, q_cap_Cap, q_state_Slot, q_S_int, q_uint64, q_A4_uint64, q_thing_Thing]
    refine sdone_ret rfl ⟨⟨Go.Lib.compact (sortI (W.map (·.2))), rdI_cut (ys := List.replicate ((sortI (W.map (·.2))).length - (Go.Lib.compact (sortI (W.map (·.2)))).length) 0) (by rw [gset, if_pos rfl]; simp [cI]), ?_, fun x => ?_⟩, k6.put (by omega) (by omega) _⟩
    · unfold Go.Lib.compact Go.Lib.compactUpTo
      rw [List.length_map]
      refine Nat.le_trans (List.length_filter_le _ _) ?_
      simp only [List.length_range]; omega
    · rw [mem_compact, mem_sortI]
      simp
end Go.Proofs.Ytkcahnefekkfaaa.F13W

namespace Go.Proofs.Ytkcahnefekkfaaa.F13W
open Go Go.Proofs Go.Proofs.YtkcahnefekkfaaaAbs
variable [Base]
set_option maxHeartbeats 8000000
set_option maxRecDepth 100000
theorem idxT_ge (p : Tg → Bool) {u : Tg} (hp : p u = true) : ∀ (l : List Tg) (i : Int), 0 ≤ i → u ∈ l → 0 ≤ idxT p l i
  | x :: l, i, hi, hm => by
    rw [idxT]
    split
    · exact hi
    · rename_i c
      rcases List.mem_cons.1 hm with h | h
      · subst h; exact absurd hp c
      · exact idxT_ge p hp l (i + 1) (by omega) h
theorem allW_go {a b c : Int} {ss : List Sl} {ts : List Tg} {th : Int} {x : Ev} (hx : x ∈ allW a b c ss ts th) : goodP x.1 = true ∧ slotV a ss ts th x.1 = (x.2, 0) ∧ 0 ≤ x.2 ∧ x.2 < ss.length ∧ 0 ≤ ownerS ts x.2 := by
  unfold allW at hx
  split at hx
  · rename_i h
    obtain ⟨hg, hth⟩ := h
    obtain ⟨q, rfl⟩ : ∃ q : Nat, th = q := ⟨th.toNat, by omega⟩
    obtain ⟨hql, hq2⟩ := root_node hg (q := q) (by omega)
    rw [show (2 : Int) + q = (2 + q : Nat) by omega, tgAt_nat hql] at hx
    obtain ⟨r, e1, e2, e3, e4, e5, u, u1, u2, u3, u4, u5⟩ := ways_go hg 3 _ [] x (List.getElem_mem hql) hq2 hx
    rw [List.nil_append] at e1
    subst e1
    have hgp : goodP x.1 = true := by
      simp only [goodP, Bool.and_eq_true, decide_eq_true_eq, Bool.not_eq_true', List.any_eq_false]
      refine ⟨⟨e2, e3⟩, fun y hy => ?_⟩
      have := e4 y hy
      simp only [oddS, decide_eq_true_eq]; omega
    refine ⟨hgp, ?_, u4, u5, idxT_ge _ u3 ts 0 (by omega) u1⟩
    unfold slotV
    rw [if_pos ⟨hth, hgp⟩, show (2 : Int) + q = (2 + q : Nat) by omega, tgAt_nat hql]
    exact e5 0
  · exact nomatch hx
theorem sel_mem {slot : Int} {W : List Ev} {x : List Int} (h : x ∈ sel slot W) : (x, slot) ∈ W := by
  obtain ⟨e, he, rfl⟩ := List.mem_map.1 h
  obtain ⟨h1, h2⟩ := List.mem_filter.1 he
  have h2 : e.2 = slot := of_decide_eq_true h2
  rw [← h2]; exact h1
theorem sel_pos {slot : Int} {W : List Ev} : slot ∈ W.map (·.2) ↔ 0 < (sel slot W).length := by
  unfold sel
  rw [List.length_map, List.length_pos_iff_exists_mem]
  constructor
  · intro h
    obtain ⟨e, he, h2⟩ := List.mem_map.1 h
    exact ⟨e, List.mem_filter.2 ⟨he, decide_eq_true h2⟩⟩
  · rintro ⟨e, he⟩
    obtain ⟨h1, h2⟩ := List.mem_filter.1 he
    exact List.mem_map.2 ⟨e, h1, of_decide_eq_true h2⟩
theorem rdWays_rd {g : AMem} {v : Value} {xs : List (List Int)} (h : rdWays g v xs) : ∃ Vs, Rd g 1 (fun v : Value => [v]) v Vs ∧ Vs.length = xs.length ∧ ∀ i (h1 : i < Vs.length) (h2 : i < xs.length), rdI g Vs[i] xs[i] := by
  obtain ⟨Vs, h1, h2⟩ := h
  refine ⟨Vs, ?_, h2.len, fun i p1 p2 => ?_⟩
  · rcases h1 with ⟨rfl, rfl⟩ | ⟨w, rfl, h3⟩
    · exact Gb_rd (e := 1) (enc := fun v : Value => [v]) (fun _ => rfl) (Or.inl ⟨rfl, rfl⟩ : Gb 1 (fun v : Value => [v]) 0 g _ [])
    · exact Gb_rd (e := 1) (enc := fun v : Value => [v]) (fun _ => rfl) (Or.inr ⟨w, Nat.zero_le _, rfl, by rw [h3]; simp⟩ : Gb 1 (fun v : Value => [v]) 0 g _ Vs)
  · obtain ⟨b, e1, e2⟩ := h2.get i p1 p2
    exact Gi.rd (n := 0) (Or.inr ⟨b, Nat.zero_le _, e1, e2⟩)
/-- FindWays. -/
theorem findWays (a b c : Int) (VS : Value) (ss : List Sl) (VT : Value) (ts : List Tg) (th slot : Int) (g : AMem) (n : Nat) (hdom : ∀ i, g i ≠ none → i < n)
    (hs : rdS g VS ss) (ht : rdG g VT ts) :
    FnC Try.prog f_reevelaw13_FindWays [sv a b c VS VT, .int .i64 th, .int .i64 slot] g n (fun _ => False) (.bool true) g n := by
  refine fnC_of_rwp t_reevelaw13_FindWays hm rfl fun hdom => ?_
  have k1 : Kept g n (gset g n (some (rowS a b c VS VT))) (n + 1) := (by repeat first | exact Kept.refl hdom | refine Kept.new ?_ _ | refine Kept.drop ?_ (by omega) | refine Kept.put ?_ (by omega) (by omega) _ | refine Kept.skip ?_)
  have hs1 := hs.ext (k1.ext hdom)
  have ht1 := ht.ext (k1.ext hdom)
  have r0 : gset g n (some (rowS a b c VS VT)) n = some (rowS a b c VS VT) := by rw [gset, if_pos rfl]
  obtain ⟨sa, se, hVS⟩ := hs.form
  obtain ⟨ta, te, hVT⟩ := ht.form
  simp (maxSteps := 1000000) (disch := first | assumption | omega | rfl | decide | simp only [fitsR, Bool.and_self]) [↓rules, rules, ↓rulesDp, rulesDq, lit_u64, Int.ofNat_inj, stops, rc_reevelaw13_FindWays, q_int, q_bool, q_geo_Geo, q_S_state_Slot, q_S_thing_Thing, q_state_State, q_cap_Cap, q_state_Slot, q_S_int, q_api_Errno, q_path_Path, q_uint64, q_A4_uint64, q_thing_Thing, q_S_path_Path]
  generalize gset g n (some (rowS a b c VS VT)) = G at *
  refine rcall_quiet rfl (awake13 _ _) ?_
  have r0' := r0
  rw [hVS, hVT] at r0'
  by_cases c1 : (100 : Int) < ss.length
  · simp (maxSteps := 1000000) (disch := first | assumption | omega | rfl | decide | simp only [fitsR, Bool.and_self]) [↓rules, rules, ↓rulesDp, rulesDq, lit_u64, Int.ofNat_inj, stops, q_int, q_bool, q_geo_Geo, q_S_state_Slot, q_S_thing_Thing, q_state_State, q_cap_Cap, q_state_Slot, q_S_int, q_api_Errno, q_path_Path, q_uint64, q_A4_uint64, q_thing_Thing, q_S_path_Path, r0', c1]
    exact done_q hdom k1 rfl rfl
  by_cases c2 : (50 : Int) < ts.length
  · simp (maxSteps := 1000000) (disch := first | assumption | omega | rfl | decide | simp only [fitsR, Bool.and_self]) [↓rules, rules, ↓rulesDp, rulesDq, lit_u64, Int.ofNat_inj, stops, q_int, q_bool, q_geo_Geo, q_S_state_Slot, q_S_thing_Thing, q_state_State, q_cap_Cap, q_state_Slot, q_S_int, q_api_Errno, q_path_Path, q_uint64, q_A4_uint64, q_thing_Thing, q_S_path_Path, r0', c1, c2]
    exact done_q hdom k1 rfl rfl
  simp (maxSteps := 1000000) (disch := first | assumption | omega | rfl | decide | simp only [fitsR, Bool.and_self]) [↓rules, rules, ↓rulesDp, rulesDq, lit_u64, Int.ofNat_inj, stops, q_int, q_bool, q_geo_Geo, q_S_state_Slot, q_S_thing_Thing, q_state_State, q_cap_Cap, q_state_Slot, q_S_int, q_api_Errno, q_path_Path, q_uint64, q_A4_uint64, q_thing_Thing, q_S_path_Path, r0', c1, c2]
  rw [← hVS, ← hVT]
  refine rcall_quiet rfl (state_Good a b c VS VT ss ts _ _ (by omega) (by omega) hs1 ht1) ?_
  cases hgd : goodS a b c ss ts
  · simp (maxSteps := 1000000) (disch := first | assumption | omega | rfl | decide | simp only [fitsR, Bool.and_self]) [↓rules, rules, ↓rulesDp, rulesDq, lit_u64, Int.ofNat_inj, stops, q_int, q_bool, q_geo_Geo, q_S_state_Slot, q_S_thing_Thing, q_state_State, q_cap_Cap, q_state_Slot, q_S_int, q_api_Errno, q_path_Path, q_uint64, q_A4_uint64, q_thing_Thing, q_S_path_Path]
    exact done_q hdom k1 rfl rfl
  simp (maxSteps := 1000000) (disch := first | assumption | omega | rfl | decide | simp only [fitsR, Bool.and_self]) [↓rules, rules, ↓rulesDp, rulesDq, lit_u64, Int.ofNat_inj, stops, q_int, q_bool, q_geo_Geo, q_S_state_Slot, q_S_thing_Thing, q_state_State, q_cap_Cap, q_state_Slot, q_S_int, q_api_Errno, q_path_Path, q_uint64, q_A4_uint64, q_thing_Thing, q_S_path_Path, r0]
  refine rcall_spec (find_Ways a b c VS VT ss ts th slot G (n + 1) k1.dom (by omega) (by omega) hs1 ht1) rfl (fun _ h => h.elim) rfl fun V g1 n1 ⟨p1, q1⟩ => ?_
  have k2 := k1.trans q1
  have l2 := q1.le
  have s0 : g1 n = some (rowS a b c VS VT) := by rw [q1.same _ (by omega)]; exact r0
  have hs2 := hs.ext (k2.ext hdom)
  have ht2 := ht.ext (k2.ext hdom)
  obtain ⟨Vs, hp, hvl, hpi⟩ := rdWays_rd p1
  have hgo := fun x hx => allW_go (a := a) (b := b) (c := c) (ss := ss) (ts := ts) (th := th) (x := x) hx
  have hlenW := allW_len a b c ss ts th
  generalize hW : allW a b c ss ts th = W at *
  have hsl : (sel slot W).length ≤ 10000 := by
    unfold sel
    rw [List.length_map]
    exact Nat.le_trans (List.length_filter_le _ _) hlenW
  obtain ⟨pa, pe, hV⟩ := hp.form
  simp (maxSteps := 1000000) (disch := first | assumption | omega | rfl | decide | simp only [fitsR, Bool.and_self]) [↓rules, rules, ↓rulesDp, rulesDq, lit_u64, Int.ofNat_inj, stops, q_int, q_bool, q_geo_Geo, q_S_state_Slot, q_S_thing_Thing, q_state_State, q_cap_Cap, q_state_Slot, q_S_int, q_api_Errno, q_path_Path, q_uint64, q_A4_uint64, q_thing_Thing, q_S_path_Path]
  rw [hV]
  refine rwp_loop (fun j l g' n' => ∃ i, j = Vs.length - i ∧ i ≤ Vs.length ∧ g' = g1 ∧ n' = n1 ∧ l = [(1, .int .i64 th), (2, .int .i64 slot), (3, .pointer (some ⟨n, 0, none⟩)), (7, .slice pa Vs.length pe), (8, .int .i64 i)]) ?_ (k := Vs.length) ?_
  · rintro j l g' n' ⟨i, rfl, hi, rfl, rfl, rfl⟩
    by_cases hlt : (i : Int) < (Vs.length : Int)
    case neg =>
      have : i = Vs.length := by omega
      subst this
      simp (maxSteps := 1000000) (disch := first | assumption | omega | rfl | decide | simp only [fitsR, Bool.and_self]) [↓rules, rules, ↓rulesDp, rulesDq, lit_u64, Int.ofNat_inj, stops, rc_reevelaw13_FindWaysl0, q_int, q_bool, q_geo_Geo, q_S_state_Slot, q_S_thing_Thing, q_state_State, q_cap_Cap, q_state_Slot, q_S_int, q_api_Errno, q_path_Path, q_uint64, q_A4_uint64, q_thing_Thing, q_S_path_Path, hlt, s0]
      refine rcall_spec (find_Reach a b c VS VT ss ts th _ _ k2.dom (by omega) (by omega) hs2 ht2) rfl (fun _ h => h.elim) rfl fun R g2 n2 ⟨⟨xs, x1, x2, x3⟩, q2⟩ => ?_
      simp only [hW] at x3
      have k3 := k2.trans q2
      have l3 := q2.le
      have u0 : g2 n = some (rowS a b c VS VT) := by rw [q2.same _ (by omega)]; exact s0
      have hs3 := hs.ext (k3.ext hdom)
      have ht3 := ht.ext (k3.ext hdom)
      obtain ⟨ra, re, hR⟩ := x1.form
      simp (maxSteps := 1000000) (disch := first | assumption | omega | rfl | decide | simp only [fitsR, Bool.and_self]) [↓rules, rules, ↓rulesDp, rulesDq, lit_u64, Int.ofNat_inj, stops, q_int, q_bool, q_geo_Geo, q_S_state_Slot, q_S_thing_Thing, q_state_State, q_cap_Cap, q_state_Slot, q_S_int, q_api_Errno, q_path_Path, q_uint64, q_A4_uint64, q_thing_Thing, q_S_path_Path]
      rw [hR]
      refine rwp_loop (fun j l g' n' => ∃ i, j = xs.length - i ∧ i ≤ xs.length ∧ g' = g2 ∧ n' = n2 ∧ l = [(2, .int .i64 slot), (3, .pointer (some ⟨n, 0, none⟩)), (7, .slice pa Vs.length pe), (11, .slice ra xs.length re), (12, .bool (decide (slot ∈ xs.take i))), (13, .int .i64 i)]) ?_ (k := xs.length) ?_
      · rintro j l g' n' ⟨i, rfl, hi, rfl, rfl, rfl⟩
        by_cases hlt2 : (i : Int) < (xs.length : Int)
        case neg =>
          have : i = xs.length := by omega
          subst this
          rw [List.take_length]
          have hiff : slot ∈ xs ↔ 0 < Vs.length := by rw [x3, sel_pos, hvl]
          by_cases hpos : 0 < Vs.length
          · have hpos' : (0 : Int) < Vs.length := by omega
            rw [decide_eq_true (hiff.2 hpos)]
            simp (maxSteps := 1000000) (disch := first | assumption | omega | rfl | decide | simp only [fitsR, Bool.and_self]) [↓rules, rules, ↓rulesDp, rulesDq, lit_u64, Int.ofNat_inj, stops, rc_reevelaw13_FindWaysl1, q_int, q_bool, q_geo_Geo, q_S_state_Slot, q_S_thing_Thing, q_state_State, q_cap_Cap, q_state_Slot, q_S_int, q_api_Errno, q_path_Path, q_uint64, q_A4_uint64, q_thing_Thing, q_S_path_Path, hlt2, hpos, hpos']
            exact done_q hdom k3 rfl rfl
          · have hpos' : ¬ (0 : Int) < Vs.length := by omega
            rw [decide_eq_false (fun h => hpos (hiff.1 h))]
            simp (maxSteps := 1000000) (disch := first | assumption | omega | rfl | decide | simp only [fitsR, Bool.and_self]) [↓rules, rules, ↓rulesDp, rulesDq, lit_u64, Int.ofNat_inj, stops, rc_reevelaw13_FindWaysl1, q_int, q_bool, q_geo_Geo, q_S_state_Slot, q_S_thing_Thing, q_state_State, q_cap_Cap, q_state_Slot, q_S_int, q_api_Errno, q_path_Path, q_uint64, q_A4_uint64, q_thing_Thing, q_S_path_Path, hlt2, hpos, hpos']
            exact done_q hdom k3 rfl rfl
        have hlt3 : i < xs.length := by omega
        obtain ⟨b1, o1, f1, _, f2⟩ := x1.one hlt3
        have e1 := f2 g' (Ext.refl _) Try.prog _ ta_int
        have hf1 : Value.slice ra xs.length re = .slice (some ⟨b1, o1, none⟩) xs.length 1 := hR.symm.trans f1
        have w1 : IntKind.i64.wrap ((i : Int) + 1) = (i : Int) + 1 := wrap_i64 (by omega) (by omega)
        have hm := (x3 xs[i]).1 (List.getElem_mem hlt3)
        obtain ⟨ev, hev, hev2⟩ := List.mem_map.1 hm
        obtain ⟨_, _, v1, v2, v3⟩ := hgo ev hev
        rw [hev2] at v1 v2 v3
        have htk : (slot ∈ xs.take (i + 1)) ↔ (slot ∈ xs.take i ∨ xs[i] = slot) := by
          rw [List.take_add_one, List.getElem?_eq_getElem hlt3]
          simp only [Option.toList_some, List.mem_append, List.mem_singleton]
          exact or_congr Iff.rfl eq_comm
        have how : ∀ G N, rdS G VS ss → rdG G VT ts → FnC Try.prog f_state_Owner [sv a b c VS VT, .int .i64 xs[i]] G N (fun _ => False) (.int .i64 (ownerS ts xs[i])) G N := fun G N h1 h2 => by
          have := state_Owner a b c VS VT ss ts xs[i] G N (by omega) (by omega) h1 h2
          rwa [show ownV a b c ss ts xs[i] = ownerS ts xs[i] from if_pos ⟨hgd, v1, v2⟩] at this
        generalize xs[i] = xi at *
        have v3' : ¬ ownerS ts xi < 0 := by omega
        rw [hf1]
        by_cases hin : slot ∈ xs.take i
        · rw [decide_eq_true hin]
          simp (maxSteps := 1000000) (disch := first | assumption | omega | rfl | decide | simp only [fitsR, Bool.and_self]) [↓rules, rules, ↓rulesDp, rulesDq, lit_u64, Int.ofNat_inj, stops, rc_reevelaw13_FindWaysl1, q_int, q_bool, q_geo_Geo, q_S_state_Slot, q_S_thing_Thing, q_state_State, q_cap_Cap, q_state_Slot, q_S_int, q_api_Errno, q_path_Path, q_uint64, q_A4_uint64, q_thing_Thing, q_S_path_Path, hlt2, u0, e1]
          refine rcall_quiet rfl (how _ _ hs3 ht3) ?_
          simp (maxSteps := 1000000) (disch := first | assumption | omega | rfl | decide | simp only [fitsR, Bool.and_self]) [↓rules, rules, ↓rulesDp, rulesDq, lit_u64, Int.ofNat_inj, stops, q_int, q_bool, q_geo_Geo, q_S_state_Slot, q_S_thing_Thing, q_state_State, q_cap_Cap, q_state_Slot, q_S_int, q_api_Errno, q_path_Path, q_uint64, q_A4_uint64, q_thing_Thing, q_S_path_Path, v3', w1]
          exact ⟨xs.length - (i + 1), by omega, i + 1, rfl, by omega, htk.2 (Or.inl hin), by omega⟩
        · rw [decide_eq_false hin]
          by_cases hxs : xi = slot
          · subst hxs
            simp (maxSteps := 1000000) (disch := first | assumption | omega | rfl | decide | simp only [fitsR, Bool.and_self]) [↓rules, rules, ↓rulesDp, rulesDq, lit_u64, Int.ofNat_inj, stops, rc_reevelaw13_FindWaysl1, q_int, q_bool, q_geo_Geo, q_S_state_Slot, q_S_thing_Thing, q_state_State, q_cap_Cap, q_state_Slot, q_S_int, q_api_Errno, q_path_Path, q_uint64, q_A4_uint64, q_thing_Thing, q_S_path_Path, hlt2, u0, e1]
            refine rcall_quiet rfl (how _ _ hs3 ht3) ?_
            simp (maxSteps := 1000000) (disch := first | assumption | omega | rfl | decide | simp only [fitsR, Bool.and_self]) [↓rules, rules, ↓rulesDp, rulesDq, lit_u64, Int.ofNat_inj, stops, q_int, q_bool, q_geo_Geo, q_S_state_Slot, q_S_thing_Thing, q_state_State, q_cap_Cap, q_state_Slot, q_S_int, q_api_Errno, q_path_Path, q_uint64, q_A4_uint64, q_thing_Thing, q_S_path_Path, v3', w1]
            exact ⟨xs.length - (i + 1), by omega, i + 1, rfl, by omega, htk.2 (Or.inr rfl), by omega⟩
          · simp (maxSteps := 1000000) (disch := first | assumption | omega | rfl | decide | simp only [fitsR, Bool.and_self]) [↓rules, rules, ↓rulesDp, rulesDq, lit_u64, Int.ofNat_inj, stops, rc_reevelaw13_FindWaysl1, q_int, q_bool, q_geo_Geo, q_S_state_Slot, q_S_thing_Thing, q_state_State, q_cap_Cap, q_state_Slot, q_S_int, q_api_Errno, q_path_Path, q_uint64, q_A4_uint64, q_thing_Thing, q_S_path_Path, hlt2, u0, e1, hxs]
            refine rcall_quiet rfl (how _ _ hs3 ht3) ?_
            simp (maxSteps := 1000000) (disch := first | assumption | omega | rfl | decide | simp only [fitsR, Bool.and_self]) [↓rules, rules, ↓rulesDp, rulesDq, lit_u64, Int.ofNat_inj, stops, q_int, q_bool, q_geo_Geo, q_S_state_Slot, q_S_thing_Thing, q_state_State, q_cap_Cap, q_state_Slot, q_S_int, q_api_Errno, q_path_Path, q_uint64, q_A4_uint64, q_thing_Thing, q_S_path_Path, v3', w1]
            exact ⟨xs.length - (i + 1), by omega, i + 1, rfl, by omega, fun h => by rcases htk.1 h with h | h; exact hin h; exact hxs h, by omega⟩
      · exact ⟨0, by simp, by simp, rfl, rfl, by rfl⟩
    have hlt1 : i < Vs.length := by omega
    obtain ⟨b1, o1, f1, _, f2⟩ := rd_big (e := 1) (enc := fun v : Value => [v]) hp (fun _ => rfl) hlt1
    have e1 := f2 g' (Ext.refl _) Try.prog _ ta_path_Path ts_path_Path
    rw [Nat.mul_one] at e1
    have hf1 : Value.slice pa Vs.length pe = .slice (some ⟨b1, o1, none⟩) Vs.length 1 := hV.symm.trans f1
    have hi2 : i < (sel slot W).length := by omega
    have hx := hpi i hlt1 hi2
    obtain ⟨gp, gs, _⟩ := hgo _ (sel_mem (List.getElem_mem hi2))
    dsimp only at gp gs
    have hxl := (goodP_x gp).2.1
    have w1 : IntKind.i64.wrap ((i : Int) + 1) = (i : Int) + 1 := wrap_i64 (by omega) (by omega)
    generalize hvi : Vs[i] = Vi at *
    generalize (sel slot W)[i] = xi at *
    rw [hf1]
    simp (maxSteps := 1000000) (disch := first | assumption | omega | rfl | decide | simp only [fitsR, Bool.and_self]) [↓rules, rules, ↓rulesDp, rulesDq, lit_u64, Int.ofNat_inj, stops, rc_reevelaw13_FindWaysl0, q_int, q_bool, q_geo_Geo, q_S_state_Slot, q_S_thing_Thing, q_state_State, q_cap_Cap, q_state_Slot, q_S_int, q_api_Errno, q_path_Path, q_uint64, q_A4_uint64, q_thing_Thing, q_S_path_Path, hlt, s0, e1]
    refine rcall_quiet rfl (find_Slot a b c VS VT Vi ss ts th xi _ _ (by omega) (by omega) (by omega) hgd hs2 ht2 hx) ?_
    rw [gs]
    simp (maxSteps := 1000000) (disch := first | assumption | omega | rfl | decide | simp only [fitsR, Bool.and_self]) [↓rules, rules, ↓rulesDp, rulesDq, lit_u64, Int.ofNat_inj, stops, q_int, q_bool, q_geo_Geo, q_S_state_Slot, q_S_thing_Thing, q_state_State, q_cap_Cap, q_state_Slot, q_S_int, q_api_Errno, q_path_Path, q_uint64, q_A4_uint64, q_thing_Thing, q_S_path_Path, hlt, e1]
    refine rcall_quiet rfl (path_Good Vi xi _ _ (by omega) hx) ?_
    rw [gp]
    simp (maxSteps := 1000000) (disch := first | assumption | omega | rfl | decide | simp only [fitsR, Bool.and_self]) [↓rules, rules, ↓rulesDp, rulesDq, lit_u64, Int.ofNat_inj, stops, q_int, q_bool, q_geo_Geo, q_S_state_Slot, q_S_thing_Thing, q_state_State, q_cap_Cap, q_state_Slot, q_S_int, q_api_Errno, q_path_Path, q_uint64, q_A4_uint64, q_thing_Thing, q_S_path_Path, w1]
    exact ⟨Vs.length - (i + 1), by omega, i + 1, rfl, by omega, by omega⟩
  · exact ⟨0, by simp, by simp, rfl, rfl, by rfl⟩
end Go.Proofs.Ytkcahnefekkfaaa.F13W
