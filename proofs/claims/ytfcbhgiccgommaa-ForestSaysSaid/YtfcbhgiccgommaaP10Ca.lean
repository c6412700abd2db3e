/- Contracts of functions: what each one returns, and what it leaves. No statement is proved here. -/
import Derived.Test.YtfcbhgiccgommaaP10a
set_option linter.unusedVariables false
set_option linter.unusedSimpArgs false
set_option linter.unusedSectionVars false
namespace Go.Proofs.Ytfcbhgiccgommaa.F10
open Go Go.Proofs Go.Proofs.YtfcbhgiccgommaaAbs
variable [Base]
set_option maxHeartbeats 8000000
set_option maxRecDepth 100000
theorem rrun_append {P : Program} {may : Nat → Prop} : ∀ (a b : List ROp) {K : RL → AMem → Nat → Prop} {l : RL} {g : AMem} {n : Nat}, rrun P may a (rrun P may b K) l g n → rrun P may (a ++ b) K l g n
  | [], b, K, l, g, n, h => h
  | o :: a, b, K, l, g, n, h => by
    have e : rrun P may a (rrun P may b K) = rrun P may (a ++ b) K ∨ True := Or.inr trivial
    obtain ⟨l', g', n', h1, h2⟩ := rrun_exact [o] (K := rrun P may a (rrun P may b K)) l g n h
    exact h2 (rrun P may (a ++ b) K) (rrun_append a b h1)
theorem rrun_cut {P : Program} {may : Nat → Prop} {ops : List ROp} {K : RL → AMem → Nat → Prop} {l : RL} {g : AMem} {n : Nat} (a : Nat) {K1 : RL → AMem → Nat → Prop} (h1 : rrun P may (ops.take a) K1 l g n) (h2 : ∀ l g n, K1 l g n → rrun P may (ops.drop a) K l g n) : rrun P may ops K l g n := by
  have := rrun_append (ops.take a) (ops.drop a) (rrun_mono h1 h2)
  rwa [List.take_append_drop] at this
theorem rval_cut {P : Program} {may : Nat → Prop} {dst : Option Tmp} {ops : List ROp} {K : RL → AMem → Nat → Prop} {l : RL} {g : AMem} {n : Nat} {o : Option Value} (a : Nat) {K1 : RL → AMem → Nat → Prop} (h1 : rval dst (rrun P may (ops.take a) K1) l g n o) (h2 : ∀ l g n, K1 l g n → rrun P may (ops.drop a) K l g n) : rval dst (rrun P may ops K) l g n o := by
  cases o with
  | none => exact h1
  | some v => exact rrun_cut a h1 h2
theorem bel_none {u : List Int} {r : Int → Nat} (h : RkF u r) {i : Int} (hi : isF u i = true) (hk : kidsF u i = []) : belF u i = [] := by
  have hp := h.bel_perm hi (f := u.length) (by omega)
  rw [hk] at hp
  have : behF u u.length [] = [] := by cases u.length <;> rfl
  rw [this] at hp
  exact (List.Perm.nil_eq hp).symm
theorem prune_good {u : List Int} {i : Int} (hg : goodF u = true) : goodF (pruneF u i) = true := (good_rk hg).prune.good (by rw [pruneF_len]; exact (good_parts hg).1)
theorem drop_good {u : List Int} {i : Int} (hg : goodF u = true) (hi : isF u i = true) : goodF (dropF u i) = true := ((good_rk hg).drop hi).good (by rw [dropF_len]; exact (good_parts hg).1)
theorem prune_bel {u : List Int} {i : Int} (hg : goodF u = true) (hi : isF u i = true) : belS (pruneF u i) i = [] := by
  unfold belS
  split
  · rename_i h
    exact bel_none (good_rk hg).prune (mayF_iff.1 h).2 (prune_kids (good_rk hg) hi)
  · rfl
/-- Which are told. -/
def inL (ks : List Int) (m : Nat) : List Value := (List.range m).map fun (k : Nat) => Value.bool (decide ((k : Int) ∈ ks))
theorem inL_len (ks : List Int) (m : Nat) : (inL ks m).length = m := by simp [inL]
theorem inL_nil (m : Nat) : inL [] m = List.replicate m (.bool false) := by
  refine List.ext_getElem (by simp [inL]) fun i h1 h2 => ?_
  simp [inL]
theorem inL_nth (ks : List Int) (m p : Nat) (h : p < m) : nth (inL ks m) p = some (.bool (decide ((p : Int) ∈ ks))) := by
  rw [← nth_eq, inL, List.getElem?_map, List.getElem?_range h]; rfl
theorem inL_set (ks : List Int) (m p : Nat) (h : p < m) : splice (inL ks m) p [.bool true] = inL (ks ++ [(p : Int)]) m := by
  rw [splice_one _ _ _ (by rw [inL_len]; exact h)]
  refine List.ext_getElem (by simp [inL]) fun i h1 h2 => ?_
  rw [List.getElem_set]
  by_cases c : p = i
  · subst c; simp [inL]
  · rw [if_neg c]
    simp [inL, show (i : Int) ≠ p by omega]
theorem tz_seen : zeroFlat Try.prog 33 = some (inL [] 96) := by kernel_rfl
theorem cuts_loop0 {K : RPost} {n m s p0 d0 : Nat} {va VB : Value} {u ks : List Int} {i : Int} {G : AMem} {a : Option Addr} {ea : Nat} (hva : va = .slice a u.length ea) (hu : u.length ≤ 96) (hs0 : n ≤ s) (hGs : G s = some (.row (inL [] 96) true))
    (hB : ∀ o, rdI (gset G s (some o)) VB ks) (hks : ∀ k, k ∈ ks → 0 ≤ k ∧ k < u.length) (hkl : ks.length ≤ 100000)
    (hend : ∀ l', YtfcbhgiccgommaaAbs.look 0 l' = va → YtfcbhgiccgommaaAbs.look 1 l' = .int .i64 i → YtfcbhgiccgommaaAbs.look 7 l' = .pointer (some ⟨p0, 0, none⟩) → YtfcbhgiccgommaaAbs.look 9 l' = .pointer (some ⟨d0, 0, none⟩) → YtfcbhgiccgommaaAbs.look 11 l' = .pointer (some ⟨s, 0, none⟩) → K (.exit 0) l' (gset G s (some (.row (inL ks 96) true))) m) :
    rwp Try.prog (fun j => n ≤ j) (RCode.loop [0, 1, 6, 7, 9, 11, 12] rc_reevelaw10_ForestCutsl0) K [(0, va), (1, .int .i64 i), (6, VB), (7, .pointer (some ⟨p0, 0, none⟩)), (9, .pointer (some ⟨d0, 0, none⟩)), (11, .pointer (some ⟨s, 0, none⟩)), (12, .int .i64 0)] G m := by
  refine rwp_loop (fun j l g' n' => ∃ k, j = ks.length - k ∧ k ≤ ks.length ∧ g' = gset G s (some (.row (inL (ks.take k) 96) true)) ∧ n' = m ∧ l = [(0, va), (1, .int .i64 i), (6, VB), (7, .pointer (some ⟨p0, 0, none⟩)), (9, .pointer (some ⟨d0, 0, none⟩)), (11, .pointer (some ⟨s, 0, none⟩)), (12, .int .i64 k)]) ?_ (k := ks.length) ?_
  · rintro j l g' n' ⟨k, rfl, hk, rfl, rfl, rfl⟩
    have hBk := hB (.row (inL (ks.take k) 96) true)
    obtain ⟨xa, xe, hVB⟩ := hBk.form
    by_cases hlt : (k : Int) < (ks.length : Int)
    case neg =>
      have : k = ks.length := by omega
      subst this
      rw [List.take_length]
      simp (maxSteps := 1000000) (disch := first | assumption | omega | rfl | decide | simp only [fitsR, Bool.and_self]) [↓rules, rules, ↓rulesDp, rulesDq, lit_u64, Int.ofNat_inj, stops, rc_reevelaw10_ForestCutsl0, q_int, q_bool, q_S_int, q_forest_Forest, q_A96_bool, hVB, hlt]
      exact hend _ (by rfl) (by rfl) (by rfl) (by rfl) (by rfl)
    have hlt1 : k < ks.length := by omega
    obtain ⟨b1, o1, h1, _, h2⟩ := hBk.one hlt1
    have e2 := h2 _ (Ext.refl _) Try.prog _ ta_int
    obtain ⟨y0, y1⟩ := hks _ (List.getElem_mem hlt1)
    have hts := take_snoc ks k hlt1
    obtain ⟨p, hp⟩ : ∃ p : Nat, ks[k] = p := ⟨ks[k].toNat, by omega⟩
    rw [hp] at e2 y1 hts
    have c0 : ¬ (p : Int) < 0 := by omega
    have c1 : ¬ (u.length : Int) ≤ p := by omega
    have c2 : (p : Int) < 96 := by omega
    have c3 : p < 96 := by omega
    have c4 : p + 1 ≤ 96 := by omega
    have hil := inL_len (ks.take k) 96
    have hst := inL_set (ks.take k) 96 p c3
    rw [← hts] at hst
    have w1 : IntKind.i64.wrap ((k : Int) + 1) = ((k + 1 : Nat) : Int) := by rw [wrap_i64 (by omega) (by omega)]; omega
    generalize inL (ks.take k) 96 = R at *
    simp (maxSteps := 1000000) (disch := first | assumption | omega | rfl | decide | simp only [fitsR, Bool.and_self]) [↓rules, rules, ↓rulesDp, rulesDq, lit_u64, Int.ofNat_inj, stops, rc_reevelaw10_ForestCutsl0, q_int, q_bool, q_S_int, q_forest_Forest, q_A96_bool, hva, h1, hlt, e2, c0, c1, c2, c3, c4, hil, w1]
    rw [hst]
    exact ⟨by omega, ks.length - (k + 1), by omega, k + 1, rfl, by omega, rfl, by omega⟩
  · exact ⟨0, by simp, by simp, by rw [List.take_zero]; exact (gset_eta hGs).symm, rfl, by rfl⟩
theorem cuts_loop1 {K : RPost} {n m s p0 d0 : Nat} {va Vp Vd : Value} {u ps ds : List Int} {i : Int} {R : List Value} {G : AMem} (hu : u.length ≤ 96) (ha : rdI G va u) (hGs : G s = some (.row R true)) (hGp : G p0 = some (.row [Vp] true)) (hGd : G d0 = some (.row [Vd] true))
    (hp : rdI G Vp ps) (hd : rdI G Vd ds) (hpl : ps.length = u.length) (hdl : ds.length = u.length) (bf : Nat → Bool) (hR : ∀ k, k < 96 → nth R k = some (.bool (bf k)))
    (q : Nat) (hiq : i = q) (hq : q < u.length) (h1 : ∀ (k : Nat) (hk : k < u.length), bf k = true → ps[k]'(by omega) = -2) (h2 : ∀ (k : Nat) (hk : k < u.length), bf k = false → ps[k]'(by omega) = u[k])
    (h3 : ∀ (k : Nat) (hk : k < u.length), k ≠ q → u[k] ≠ i → ds[k]'(by omega) = u[k]) (h4 : ∀ (k : Nat) (hk : k < u.length), u[k] = i → ds[k]'(by omega) = u[q]) (h5 : u[q] ≠ i)
    (hend : ∀ l', YtfcbhgiccgommaaAbs.look 0 l' = va → YtfcbhgiccgommaaAbs.look 1 l' = .int .i64 i → YtfcbhgiccgommaaAbs.look 9 l' = .pointer (some ⟨d0, 0, none⟩) → K (.exit 2) l' G m) :
    rwp Try.prog (fun j => n ≤ j) (RCode.loop [0, 1, 7, 9, 11, 13] rc_reevelaw10_ForestCutsl1) K [(0, va), (1, .int .i64 i), (7, .pointer (some ⟨p0, 0, none⟩)), (9, .pointer (some ⟨d0, 0, none⟩)), (11, .pointer (some ⟨s, 0, none⟩)), (13, .int .i64 0)] G m := by
  refine rwp_loop (fun j l g' n' => ∃ k, j = u.length - k ∧ k ≤ u.length ∧ g' = G ∧ n' = m ∧ l = [(0, va), (1, .int .i64 i), (7, .pointer (some ⟨p0, 0, none⟩)), (9, .pointer (some ⟨d0, 0, none⟩)), (11, .pointer (some ⟨s, 0, none⟩)), (13, .int .i64 k)]) ?_ (k := u.length) ?_
  · rintro j l g' n' ⟨k, rfl, hk, rfl, rfl, rfl⟩
    obtain ⟨xa, xe, hva⟩ := ha.form
    by_cases hlt : (k : Int) < (u.length : Int)
    case neg =>
      simp (maxSteps := 1000000) (disch := first | assumption | omega | rfl | decide | simp only [fitsR, Bool.and_self]) [↓rules, rules, ↓rulesDp, rulesDq, lit_u64, Int.ofNat_inj, stops, rc_reevelaw10_ForestCutsl1, q_int, q_bool, q_S_int, q_forest_Forest, q_A96_bool, hva, hlt]
      exact hend _ (by rw [← hva]; rfl) (by rfl) (by rfl)
    have hlt1 : k < u.length := by omega
    obtain ⟨b1, o1, f1, _, f2⟩ := ha.one hlt1
    have e1 := f2 _ (Ext.refl _) Try.prog _ ta_int
    obtain ⟨b1', o1', f1', _, f2'⟩ := ha.one hq
    have e1q := f2' _ (Ext.refl _) Try.prog _ ta_int
    rw [f1] at f1'
    simp only [Value.slice.injEq, Option.some.injEq, Addr.mk.injEq] at f1'
    obtain ⟨⟨rfl, rfl, _⟩, _⟩ := f1'
    obtain ⟨b2, o2, f3, _, f4⟩ := hp.one (i := k) (by omega)
    have e2 := f4 _ (Ext.refl _) Try.prog _ ta_int
    obtain ⟨b3, o3, f5, _, f6⟩ := hd.one (i := k) (by omega)
    have e3 := f6 _ (Ext.refl _) Try.prog _ ta_int
    rw [f3, hpl] at hGp
    rw [f5, hdl] at hGd
    have hRk := hR k (by omega)
    have h1k := h1 k hlt1
    have h2k := h2 k hlt1
    have h3k := h3 k hlt1
    have h4k := h4 k hlt1
    have w1 : IntKind.i64.wrap ((k : Int) + 1) = ((k + 1 : Nat) : Int) := by rw [wrap_i64 (by omega) (by omega)]; omega
    have c2 : (k : Int) < 96 := by omega
    have c3 : (q : Int) < u.length := by omega
    subst hiq
    generalize hpk : ps[k] = pk at *
    generalize hdk : ds[k] = dk at *
    simp (maxSteps := 1000000) (disch := first | assumption | omega | rfl | decide | simp only [fitsR, Bool.and_self]) [↓rules, rules, ↓rulesDp, rulesDq, lit_u64, Int.ofNat_inj, stops, rc_reevelaw10_ForestCutsl1, q_int, q_bool, q_S_int, q_forest_Forest, q_A96_bool, f1, hlt]
    rw [← f1]
    refine rval_cut 9 (K1 := fun l g2 n2 => YtfcbhgiccgommaaAbs.look 0 l = va ∧ YtfcbhgiccgommaaAbs.look 1 l = .int .i64 q ∧ YtfcbhgiccgommaaAbs.look 7 l = .pointer (some ⟨p0, 0, none⟩) ∧ YtfcbhgiccgommaaAbs.look 9 l = .pointer (some ⟨d0, 0, none⟩) ∧ YtfcbhgiccgommaaAbs.look 11 l = .pointer (some ⟨s, 0, none⟩) ∧ YtfcbhgiccgommaaAbs.look 13 l = .int .i64 k ∧ YtfcbhgiccgommaaAbs.look 127 l = .bool false ∧ g' = g2 ∧ n' = n2) ?_ ?_
    · dsimp only [List.take]
      cases hb : bf k
      · rw [hb] at hRk
        simp (maxSteps := 1000000) (disch := first | assumption | omega | rfl | decide | simp only [fitsR, Bool.and_self]) [↓rules, rules, ↓rulesDp, rulesDq, lit_u64, Int.ofNat_inj, stops, q_int, q_bool, q_S_int, q_forest_Forest, q_A96_bool, hGs, hRk, c2, f1]
      · rw [hb] at hRk
        have h1k := h1k hb
        simp (maxSteps := 1000000) (disch := first | assumption | omega | rfl | decide | simp only [fitsR, Bool.and_self]) [↓rules, rules, ↓rulesDp, rulesDq, lit_u64, Int.ofNat_inj, stops, q_int, q_bool, q_S_int, q_forest_Forest, q_A96_bool, hGs, hRk, c2, hGp, hlt, e2, h1k, f1]
    rintro l _ _ ⟨z0, z1, z7, z9, z11, z13, z127, rfl, rfl⟩
    dsimp only [List.drop]
    refine rrun_cut 18 (K1 := fun l g2 n2 => YtfcbhgiccgommaaAbs.look 0 l = va ∧ YtfcbhgiccgommaaAbs.look 1 l = .int .i64 q ∧ YtfcbhgiccgommaaAbs.look 7 l = .pointer (some ⟨p0, 0, none⟩) ∧ YtfcbhgiccgommaaAbs.look 9 l = .pointer (some ⟨d0, 0, none⟩) ∧ YtfcbhgiccgommaaAbs.look 11 l = .pointer (some ⟨s, 0, none⟩) ∧ YtfcbhgiccgommaaAbs.look 13 l = .int .i64 k ∧ YtfcbhgiccgommaaAbs.look 145 l = .bool false ∧ g' = g2 ∧ n' = n2) ?_ ?_
    · dsimp only [List.take]
      cases hb : bf k
      · rw [hb] at hRk
        have h2k := h2k hb
        simp (maxSteps := 1000000) (disch := first | assumption | omega | rfl | decide | simp only [fitsR, Bool.and_self]) [↓rules, rules, ↓rulesDp, rulesDq, lit_u64, Int.ofNat_inj, stops, q_int, q_bool, q_S_int, q_forest_Forest, q_A96_bool, z0, z1, z7, z9, z11, z13, z127, hGs, hRk, c2, hGp, f1, hlt, e1, e2, h2k]
      · rw [hb] at hRk
        simp (maxSteps := 1000000) (disch := first | assumption | omega | rfl | decide | simp only [fitsR, Bool.and_self]) [↓rules, rules, ↓rulesDp, rulesDq, lit_u64, Int.ofNat_inj, stops, q_int, q_bool, q_S_int, q_forest_Forest, q_A96_bool, z0, z1, z7, z9, z11, z13, z127, hGs, hRk, c2]
    clear z127
    clear z0 z1 z7 z9 z11 z13
    rintro l _ _ ⟨z0, z1, z7, z9, z11, z13, z145, rfl, rfl⟩
    dsimp only [List.drop]
    refine rrun_cut 25 (K1 := fun l g2 n2 => YtfcbhgiccgommaaAbs.look 0 l = va ∧ YtfcbhgiccgommaaAbs.look 1 l = .int .i64 q ∧ YtfcbhgiccgommaaAbs.look 7 l = .pointer (some ⟨p0, 0, none⟩) ∧ YtfcbhgiccgommaaAbs.look 9 l = .pointer (some ⟨d0, 0, none⟩) ∧ YtfcbhgiccgommaaAbs.look 11 l = .pointer (some ⟨s, 0, none⟩) ∧ YtfcbhgiccgommaaAbs.look 13 l = .int .i64 k ∧ YtfcbhgiccgommaaAbs.look 170 l = .bool false ∧ g' = g2 ∧ n' = n2) ?_ ?_
    · dsimp only [List.take]
      by_cases c6 : (k : Int) = q
      · simp (maxSteps := 1000000) (disch := first | assumption | omega | rfl | decide | simp only [fitsR, Bool.and_self]) [↓rules, rules, ↓rulesDp, rulesDq, lit_u64, Int.ofNat_inj, stops, q_int, q_bool, q_S_int, q_forest_Forest, q_A96_bool, z0, z1, z7, z9, z11, z13, z145, c6]
      · by_cases c5 : u[k] = (q : Int)
        · simp (maxSteps := 1000000) (disch := first | assumption | omega | rfl | decide | simp only [fitsR, Bool.and_self]) [↓rules, rules, ↓rulesDp, rulesDq, lit_u64, Int.ofNat_inj, stops, q_int, q_bool, q_S_int, q_forest_Forest, q_A96_bool, z0, z1, z7, z9, z11, z13, z145, c6, c5, f1, hlt, e1]
        · have h3k := h3k (by omega) c5
          simp (maxSteps := 1000000) (disch := first | assumption | omega | rfl | decide | simp only [fitsR, Bool.and_self]) [↓rules, rules, ↓rulesDp, rulesDq, lit_u64, Int.ofNat_inj, stops, q_int, q_bool, q_S_int, q_forest_Forest, q_A96_bool, z0, z1, z7, z9, z11, z13, z145, c6, c5, f1, hlt, e1, hGd, e3, h3k]
    clear z145
    clear z0 z1 z7 z9 z11 z13
    rintro l _ _ ⟨z0, z1, z7, z9, z11, z13, z170, rfl, rfl⟩
    dsimp only [List.drop]
    have fin : ∃ k', k' < u.length - k ∧ ∃ k_1, k' = u.length - k_1 ∧ k_1 ≤ u.length ∧ (k : Int) + 1 = (k_1 : Int) := ⟨u.length - (k + 1), by omega, k + 1, rfl, by omega, by omega⟩
    by_cases c5 : u[k] = (q : Int)
    · have h4k := h4k c5
      simp (maxSteps := 1000000) (disch := first | assumption | omega | rfl | decide | simp only [fitsR, Bool.and_self]) [↓rules, rules, ↓rulesDp, rulesDq, lit_u64, Int.ofNat_inj, stops, q_int, q_bool, q_S_int, q_forest_Forest, q_A96_bool, z0, z1, z7, z9, z11, z13, z170, c5, f1, hlt, e1, e1q, hGd, e3, h4k, c3, w1]
      exact fin
    · simp (maxSteps := 1000000) (disch := first | assumption | omega | rfl | decide | simp only [fitsR, Bool.and_self]) [↓rules, rules, ↓rulesDp, rulesDq, lit_u64, Int.ofNat_inj, stops, q_int, q_bool, q_S_int, q_forest_Forest, q_A96_bool, z0, z1, z7, z9, z11, z13, z170, c5, f1, hlt, e1, w1]
      exact fin
  · exact ⟨0, by simp, by simp, rfl, rfl, by rfl⟩
end Go.Proofs.Ytfcbhgiccgommaa.F10

namespace Go.Proofs.Ytfcbhgiccgommaa.F10
open Go Go.Proofs Go.Proofs.YtfcbhgiccgommaaAbs
variable [Base]
set_option maxHeartbeats 8000000
set_option maxRecDepth 100000
theorem gset_gset (g : AMem) (x : Nat) (o o' : Option AObj) : gset (gset g x o) x o' = gset g x o' := by
  funext i
  unfold gset
  split <;> rfl
theorem forestCuts (va : Value) (u : List Int) (i : Int) (g : AMem) (n : Nat) (hdom : ∀ i, g i ≠ none → i < n) (ha : rdI g va u) : FnC Try.prog f_reevelaw10_ForestCuts [va, .int .i64 i] g n (fun _ => False) (.bool true) g n := by
  refine fnC_of_rwp t_reevelaw10_ForestCuts hm rfl fun hdom => ?_
  obtain ⟨a, ea, hva⟩ := ha.form
  simp (maxSteps := 1000000) (disch := first | assumption | omega | rfl | decide | simp only [fitsR, Bool.and_self]) [↓rules, rules, ↓rulesDp, rulesDq, lit_u64, Int.ofNat_inj, stops, rc_reevelaw10_ForestCuts, q_int, q_bool, q_S_int, q_forest_Forest, q_A96_bool]
  refine rcall_quiet rfl (awake10 _ _) ?_
  simp (maxSteps := 1000000) (disch := first | assumption | omega | rfl | decide | simp only [fitsR, Bool.and_self]) [↓rules, rules, ↓rulesDp, rulesDq, lit_u64, Int.ofNat_inj, stops, q_int, q_bool, q_S_int, q_forest_Forest, q_A96_bool]
  refine rcall_spec (law_up va g n hdom u ha) rfl (fun _ h => h.elim) rfl fun r g1 n1 ⟨hr, q1⟩ => ?_
  subst hr
  have l1 := q1.le
  have k1 := q1.new (.row [va] true)
  have ha1 := ha.ext (k1.ext hdom)
  have hG0 : gset g1 n1 (some (.row [va] true)) n1 = some (.row [va] true) := by simp [gset]
  by_cases c1 : (96 : Int) < u.length
  · simp (maxSteps := 1000000) (disch := first | assumption | omega | rfl | decide | simp only [fitsR, Bool.and_self]) [↓rules, rules, ↓rulesDp, rulesDq, lit_u64, Int.ofNat_inj, stops, q_int, q_bool, q_S_int, q_forest_Forest, q_A96_bool, hva, c1]
    rw [← hva]
    exact ⟨by omega, done_q hdom k1 rfl rfl⟩
  simp (maxSteps := 1000000) (disch := first | assumption | omega | rfl | decide | simp only [fitsR, Bool.and_self]) [↓rules, rules, ↓rulesDp, rulesDq, lit_u64, Int.ofNat_inj, stops, q_int, q_bool, q_S_int, q_forest_Forest, q_A96_bool, hva, c1]
  rw [← hva]
  generalize hG : gset g1 n1 (some (.row [va] true)) = G at *
  refine ⟨by omega, ?_⟩
  refine rcall_quiet rfl (forest_Good va u _ _ (by omega) ha1) ?_
  cases cg : goodF u
  · simp (maxSteps := 1000000) (disch := first | assumption | omega | rfl | decide | simp only [fitsR, Bool.and_self]) [↓rules, rules, ↓rulesDp, rulesDq, lit_u64, Int.ofNat_inj, stops, q_int, q_bool, q_S_int, q_forest_Forest, q_A96_bool]
    exact done_q hdom k1 rfl rfl
  simp (maxSteps := 1000000) (disch := first | assumption | omega | rfl | decide | simp only [fitsR, Bool.and_self]) [↓rules, rules, ↓rulesDp, rulesDq, lit_u64, Int.ofNat_inj, stops, q_int, q_bool, q_S_int, q_forest_Forest, q_A96_bool, hG0]
  refine rcall_quiet rfl (forest_Depth va u i _ _ (by omega) ha1) ?_
  by_cases c2 : depthS u i < 0
  · simp (maxSteps := 1000000) (disch := first | assumption | omega | rfl | decide | simp only [fitsR, Bool.and_self]) [↓rules, rules, ↓rulesDp, rulesDq, lit_u64, Int.ofNat_inj, stops, q_int, q_bool, q_S_int, q_forest_Forest, q_A96_bool, c2]
    exact done_q hdom k1 rfl rfl
  have cm : mayF u i = true := by
    unfold depthS at c2
    split at c2
    · assumption
    · omega
  obtain ⟨_, ci⟩ := mayF_iff.1 cm
  have hr := good_rk cg
  obtain ⟨i0, i1, i2⟩ := isF_iff.1 ci
  simp (maxSteps := 1000000) (disch := first | assumption | omega | rfl | decide | simp only [fitsR, Bool.and_self]) [↓rules, rules, ↓rulesDp, rulesDq, lit_u64, Int.ofNat_inj, stops, q_int, q_bool, q_S_int, q_forest_Forest, q_A96_bool, c2, hG0]
  refine rcall_spec (forest_Below va u i _ _ k1.dom (by omega) ha1) rfl (fun _ h => h.elim) rfl fun VB g2 n2 ⟨rB, q2⟩ => ?_
  rw [show belS u i = belF u i by unfold belS; rw [if_pos cm]] at rB
  have k2 := k1.trans q2
  have l2 := q2.le
  have h20 : g2 n1 = some (.row [va] true) := by rw [q2.same _ (by omega)]; exact hG0
  simp (maxSteps := 1000000) (disch := first | assumption | omega | rfl | decide | simp only [fitsR, Bool.and_self]) [↓rules, rules, ↓rulesDp, rulesDq, lit_u64, Int.ofNat_inj, stops, q_int, q_bool, q_S_int, q_forest_Forest, q_A96_bool, h20]
  refine rcall_spec (forest_Prune va u i _ _ k2.dom (by omega) (ha.ext (k2.ext hdom))) rfl (fun _ h => h.elim) rfl fun r3 g3 n3 ⟨Vp, hr3, rP, q3⟩ => ?_
  subst hr3
  rw [if_pos cm] at rP
  rw [cm]
  have hcp : cellOk Vp = true := by obtain ⟨pa, pe, h⟩ := rP.rd.form; rw [h]; rfl
  have k3 := k2.trans q3
  have l3 := q3.le
  have h30 : g3 n1 = some (.row [va] true) := by rw [q3.same _ (by omega)]; exact h20
  simp (maxSteps := 1000000) (disch := first | assumption | omega | rfl | decide | simp only [fitsR, Bool.and_self]) [↓rules, rules, ↓rulesDp, rulesDq, lit_u64, Int.ofNat_inj, stops, q_int, q_bool, q_S_int, q_forest_Forest, q_A96_bool, h30, hcp]
  have k4 := k3.new (.row [Vp] true)
  have h40 : gset g3 n3 (some (.row [Vp] true)) n1 = some (.row [va] true) := by rw [gset, if_neg (by omega)]; exact h30
  have h4p : gset g3 n3 (some (.row [Vp] true)) n3 = some (.row [Vp] true) := by simp [gset]
  have rP4 := rP.new (o := some (.row [Vp] true)) k3.dom
  have rB4 := (rB.kept k2.dom q3).new (o := some (.row [Vp] true)) k3.dom
  generalize hG4 : gset g3 n3 (some (.row [Vp] true)) = G4 at *
  refine ⟨by omega, ?_⟩
  refine rcall_spec (forest_Drop va u i _ _ k4.dom (by omega) (ha.ext (k4.ext hdom))) rfl (fun _ h => h.elim) rfl fun r5 g5 n5 ⟨Vd, hr5, rD, q5⟩ => ?_
  subst hr5
  rw [if_pos cm] at rD
  rw [cm]
  have k5 := k4.trans q5
  have l5 := q5.le
  have h5p : g5 n3 = some (.row [Vp] true) := by rw [q5.same _ (by omega)]; exact h4p
  have hcd : cellOk Vd = true := by obtain ⟨pa, pe, h⟩ := rD.rd.form; rw [h]; rfl
  simp (maxSteps := 1000000) (disch := first | assumption | omega | rfl | decide | simp only [fitsR, Bool.and_self]) [↓rules, rules, ↓rulesDp, rulesDq, lit_u64, Int.ofNat_inj, stops, q_int, q_bool, q_S_int, q_forest_Forest, q_A96_bool, hcd]
  have k6 := k5.new (.row [Vd] true)
  have h6p : gset g5 n5 (some (.row [Vd] true)) n3 = some (.row [Vp] true) := by rw [gset, if_neg (by omega)]; exact h5p
  have h6d : gset g5 n5 (some (.row [Vd] true)) n5 = some (.row [Vd] true) := by simp [gset]
  have rP6 := (rP4.kept k4.dom q5).new (o := some (.row [Vd] true)) k5.dom
  have rB6 := (rB4.kept k4.dom q5).new (o := some (.row [Vd] true)) k5.dom
  have rD6 := rD.new (o := some (.row [Vd] true)) k5.dom
  generalize hG6 : gset g5 n5 (some (.row [Vd] true)) = G6 at *
  refine ⟨by omega, ?_⟩
  simp (maxSteps := 1000000) (disch := first | assumption | omega | rfl | decide | simp only [fitsR, Bool.and_self]) [↓rules, rules, ↓rulesDp, rulesDq, lit_u64, Int.ofNat_inj, stops, q_int, q_bool, q_S_int, q_forest_Forest, q_A96_bool, h6p, h5p]
  refine rcall_quiet rfl (forest_Good Vp (pruneF u i) _ _ (by simp; omega) rP6.rd) ?_
  rw [prune_good cg]
  simp (maxSteps := 1000000) (disch := first | assumption | omega | rfl | decide | simp only [fitsR, Bool.and_self]) [↓rules, rules, ↓rulesDp, rulesDq, lit_u64, Int.ofNat_inj, stops, q_int, q_bool, q_S_int, q_forest_Forest, q_A96_bool, h6d]
  refine rcall_quiet rfl (forest_Good Vd (dropF u i) _ _ (by simp; omega) rD6.rd) ?_
  rw [drop_good cg ci]
  simp (maxSteps := 1000000) (disch := first | assumption | omega | rfl | decide | simp only [fitsR, Bool.and_self]) [↓rules, rules, ↓rulesDp, rulesDq, lit_u64, Int.ofNat_inj, stops, q_int, q_bool, q_S_int, q_forest_Forest, q_A96_bool, h6p]
  refine rcall_spec (forest_Below Vp (pruneF u i) i _ _ k6.dom (by simp; omega) rP6.rd) rfl (fun _ h => h.elim) rfl fun VN g7 n7 ⟨rN, q7⟩ => ?_
  rw [prune_bel cg ci] at rN
  obtain ⟨na, ne, hVN⟩ := rN.rd.form
  have k7 := k6.trans q7
  have l7 := q7.le
  have h7p : g7 n3 = some (.row [Vp] true) := by rw [q7.same _ (by omega)]; exact h6p
  have h7d : g7 n5 = some (.row [Vd] true) := by rw [q7.same _ (by omega)]; exact h6d
  have rP7 := rP6.kept k6.dom q7
  have rB7 := rB6.kept k6.dom q7
  have rD7 := rD6.kept k6.dom q7
  obtain ⟨pa, pe, hVp⟩ := rP7.rd.form
  obtain ⟨da, de, hVd⟩ := rD7.rd.form
  rw [pruneF_len] at hVp
  rw [dropF_len] at hVd
  simp (maxSteps := 1000000) (disch := first | assumption | omega | rfl | decide | simp only [fitsR, Bool.and_self]) [↓rules, rules, ↓rulesDp, rulesDq, lit_u64, Int.ofNat_inj, stops, q_int, q_bool, q_S_int, q_forest_Forest, q_A96_bool, h7p, h7d, hVN, hva, hVp, hVd, tz_seen]
  rw [← hva]
  have k8 := k7.new (.row (inL (belF u i) 96) true)
  have hself : upAt u i ≠ i := fun e => by have := (hr.step i ci (by omega)).2; rw [e] at this; omega
  obtain ⟨q, hq⟩ : ∃ q : Nat, i = q := ⟨i.toNat, by omega⟩
  have hqn : q < u.length := by omega
  refine cuts_loop0 (ks := belF u i) hva (by omega) (by omega) (by simp [gset]) (fun o => by rw [gset_gset]; exact (rB7.new k7.dom).rd) bel_in (Nat.le_trans (bel_len u i) (by omega)) fun l' z0 z1 z7 z9 z11 => ?_
  rw [gset_gset]
  have h8p : gset g7 n7 (some (.row (inL (belF u i) 96) true)) n3 = some (.row [Vp] true) := by rw [gset, if_neg (by omega)]; exact h7p
  have h8d : gset g7 n7 (some (.row (inL (belF u i) 96) true)) n5 = some (.row [Vd] true) := by rw [gset, if_neg (by omega)]; exact h7d
  have h8s : gset g7 n7 (some (.row (inL (belF u i) 96) true)) n7 = some (.row (inL (belF u i) 96) true) := by simp [gset]
  have rP8 := (rP7.new (o := some (.row (inL (belF u i) 96) true)) k7.dom).rd
  have rD8 := (rD7.new (o := some (.row (inL (belF u i) 96) true)) k7.dom).rd
  generalize hG8 : gset g7 n7 (some (.row (inL (belF u i) 96) true)) = G8 at *
  simp (maxSteps := 1000000) (disch := first | assumption | omega | rfl | decide | simp only [fitsR, Bool.and_self]) [↓rules, rules, ↓rulesDp, rulesDq, lit_u64, Int.ofNat_inj, stops, q_int, q_bool, q_S_int, q_forest_Forest, q_A96_bool, z0, z1, z7, z9, z11]
  have hnp : ∀ (k : Nat) (hk : k < u.length), (pruneF u i)[k]'(by rw [pruneF_len]; exact hk) = if isF u (k : Int) = true ∧ i ∈ ancs u (k : Int) then -2 else u[k] := fun k hk => by
    rw [← upAt_nat (by rw [pruneF_len]; exact hk), upAt_prune (by omega), upAt_nat hk]
  have hnd : ∀ (k : Nat) (hk : k < u.length), (dropF u i)[k]'(by rw [dropF_len]; exact hk) = if (k : Int) = i then -2 else if u[k] = i then upAt u i else u[k] := fun k hk => by
    rw [← upAt_nat (by rw [dropF_len]; exact hk), upAt_drop i0 i1 (by omega) (by omega), upAt_nat hk]
  have huq : upAt u i = u[q] := by rw [hq, upAt_nat hqn]
  refine cuts_loop1 (ps := pruneF u i) (ds := dropF u i) (by omega) (ha.ext (k8.ext hdom)) h8s h8p h8d rP8 rD8 (by simp) (by simp) (fun k => decide ((k : Int) ∈ belF u i)) (fun k hk => inL_nth _ _ _ hk) q hq hqn (fun k hk h => ?_) (fun k hk h => ?_) (fun k hk h h' => ?_) (fun k hk h => ?_) (by rw [← huq]; exact hself) fun l2 y0 y1 y9 => ?_
  · rw [hnp k hk, if_pos (mem_bel.1 (of_decide_eq_true h))]
  · rw [hnp k hk, if_neg (fun hc => of_decide_eq_false h (mem_bel.2 hc))]
  · rw [hnd k hk, if_neg (by omega), if_neg h']
  · rw [hnd k hk, if_neg, if_pos h, huq]
    intro e
    have e' : k = q := by omega
    subst e'
    exact hself (huq.trans h)
  · obtain ⟨b1, o1, f1, _, f2⟩ := rD8.one (i := q) (by rw [dropF_len]; exact hqn)
    have e1 := f2 _ (Ext.refl _) Try.prog _ ta_int
    rw [hnd q hqn, if_pos hq.symm] at e1
    rw [dropF_len] at f1
    have c3 : (q : Int) < u.length := by omega
    rw [f1] at h8d
    rw [hq] at y1
    simp (maxSteps := 1000000) (disch := first | assumption | omega | rfl | decide | simp only [fitsR, Bool.and_self]) [↓rules, rules, ↓rulesDp, rulesDq, lit_u64, Int.ofNat_inj, stops, q_int, q_bool, q_S_int, q_forest_Forest, q_A96_bool, y0, y1, y9, h8d, c3, e1]
    exact done_q hdom k8 rfl rfl
end Go.Proofs.Ytfcbhgiccgommaa.F10
