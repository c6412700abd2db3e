/- Contracts of functions: what each one returns, and what it leaves. No statement is proved here. -/
import Derived.Test.YtafpgojoemcgnaaP24d
set_option linter.unusedVariables false
set_option linter.unusedSimpArgs false
namespace Go.Proofs.Ytafpgojoemcgnaa.F24
open Go Go.Proofs Go.Proofs.YtafpgojoemcgnaaAbs
set_option maxHeartbeats 8000000
set_option maxRecDepth 100000
theorem ge31 {x : BitVec 64} : 2147483648#64 ≤ x ↔ 2147483647#64 < x := by
  rw [BitVec.le_def, BitVec.lt_def]
  simp only [BitVec.toNat_ofNat]; omega
/-- The loop of the reference's GetDesc. -/
theorem gd_loop {K : RPost} {b0 o0 many n n2 : Nat} {l : List (BitVec 64)} {D : De} {n' : Nat} {G : AMem}
    (hn : l.length = 1208) (hmany : many ≤ 600) (hb0 : b0 < n) (h2 : n + 1 < n2) (hn' : n2 < n') (hdom : ∀ i, G i ≠ none → i < n')
    (hel : ∀ (i : Nat) (hi : i < l.length) (g2 : AMem), g2 b0 = G b0 → ∀ (P : Program) (t : TypeId), tagg P t = some false → aLoad P g2 t (.pointer (some ⟨b0, o0 + i, none⟩)) = some (U l[i]))
    (hrow : G n2 = some (.row (cD D (.slice none 0 0)) true))
    (hfail : ∀ l' g' m', n' ≤ m' → writesG l 8 many = none → (∀ i, i < n2 → i ≠ n + 1 → g' i = G i) → (∀ i, g' i ≠ none → i < m') → g' (n + 1) = some (.row (cD noD (.slice none 0 0)) true) → YtafpgojoemcgnaaAbs.look 4 l' = .pointer (some ⟨n + 1, 0, none⟩) → YtafpgojoemcgnaaAbs.look 5 l' = .bool false → K .ret l' g' m')
    (hend : ∀ l' g' m' V ws, n' ≤ m' → writesG l 8 many = some ws → (∀ i, i < n2 → g' i = G i) → (∀ i, g' i ≠ none → i < m') → g' n2 = some (.row (cD D V) true) → Gw (n2 + 1) g' V ws →
      YtafpgojoemcgnaaAbs.look 1 l' = .slice (some ⟨b0, o0, none⟩) 1208 1 → YtafpgojoemcgnaaAbs.look 2 l' = .pointer (some ⟨n, 0, none⟩) → YtafpgojoemcgnaaAbs.look 4 l' = .pointer (some ⟨n + 1, 0, none⟩) → YtafpgojoemcgnaaAbs.look 8 l' = .pointer (some ⟨n2, 0, none⟩) → K (.exit 0) l' g' m')
    (hG1 : G (n + 1) = some (.row (cD noD (.slice none 0 0)) true)) :
    rwp Try.prog (fun i => n ≤ i) (RCode.loop [1, 2, 4, 8, 9, 10] rc_reeveref22_GetDescl0) K
      [(1, .slice (some ⟨b0, o0, none⟩) 1208 1), (2, .pointer (some ⟨n, 0, none⟩)), (4, .pointer (some ⟨n + 1, 0, none⟩)), (8, .pointer (some ⟨n2, 0, none⟩)), (9, .int .i64 many), (10, .int .i64 0)] G n' := by
  refine rwp_loop (fun k l' g' m' => ∃ i V ws, k = many - i ∧ i ≤ many ∧ n' ≤ m' ∧ writesG l 8 i = some ws ∧ (∀ i, i < n2 → g' i = G i) ∧ (∀ i, g' i ≠ none → i < m') ∧ g' n2 = some (.row (cD D V) true) ∧ Gw (n2 + 1) g' V ws ∧
    l' = [(1, .slice (some ⟨b0, o0, none⟩) 1208 1), (2, .pointer (some ⟨n, 0, none⟩)), (4, .pointer (some ⟨n + 1, 0, none⟩)), (8, .pointer (some ⟨n2, 0, none⟩)), (9, .int .i64 many), (10, .int .i64 i)]) ?_ (k := many) ?_
  · rintro k l' g' m' ⟨i, V, ws, rfl, hi, hm', hws, hsame, hd, hr2, hV, rfl⟩
    simp (maxSteps := 1000000) (disch := first | assumption | omega | rfl | decide | simp only [fitsR, Bool.and_self]) [↓rules, rules, ↓rulesDp, rulesDq, lit_u64, Int.ofNat_inj, stops, rc_reeveref22_GetDescl0, q_int, q_bool, q_uint64, q_A4_uint64, q_S_uint64, q_api_Errno, q_reeveref11_Reply, q_S_reeveref22_Write, q_reeveref22_Desc, q_reeveref1_Geo, q_reeveref22_Write]
    refine rcond_dec (fun hlt => ?_) (fun hlt => ?_)
    · have hlt : i < many := by omega
      have w1 : IntKind.i64.wrap (2 * (i : Int)) = 2 * i := wrap_i64 (by omega) (by omega)
      obtain ⟨j, hj⟩ : ∃ j : Nat, j = 8 + 2 * i := ⟨_, rfl⟩
      obtain ⟨j1, hj1⟩ : ∃ j1 : Nat, j1 = j + 1 := ⟨_, rfl⟩
      have w2 : IntKind.i64.wrap (8 + 2 * (i : Int)) = j := by rw [hj]; exact (wrap_i64 (by omega) (by omega)).trans (by omega)
      have w3 : IntKind.i64.wrap (9 + 2 * (i : Int)) = j1 := by rw [hj1, hj]; exact (wrap_i64 (by omega) (by omega)).trans (by omega)
      have e1 := hel j (by omega) g' (hsame b0 (by omega)) Try.prog _ ta_uint64
      have e2 := hel j1 (by omega) g' (hsame b0 (by omega)) Try.prog _ ta_uint64
      have b1 : (j : Int) < 1208 := by omega
      have b2 : (j1 : Int) < 1208 := by omega
      have hsn := writesG_snoc l i 8
      rw [hws, Option.bind_some, ← hj, show l.getD j 0#64 = l[j] from by simp [List.getD_eq_getElem?_getD, show j < l.length by omega], show l.getD (j + 1) 0#64 = l[j1] from by rw [← hj1]; simp [List.getD_eq_getElem?_getD, show j1 < l.length by omega]] at hsn
      by_cases c1 : 2147483648#64 ≤ l[j]
      · rw [if_neg (BitVec.not_le.2 (ge31.1 c1))] at hsn
        have hno : writesG l 8 many = none := by
          have := writesG_none l 8 (i + 1) hsn (many - (i + 1))
          rwa [show i + 1 + (many - (i + 1)) = many by omega] at this
        have hg1 := (hsame (n + 1) (by omega)).trans hG1
        simp (maxSteps := 1000000) (disch := first | assumption | omega | rfl | decide | simp only [fitsR, Bool.and_self]) [↓rules, rules, ↓rulesDp, rulesDq, lit_u64, Int.ofNat_inj, stops, q_int, q_bool, q_uint64, q_A4_uint64, q_S_uint64, q_api_Errno, q_reeveref11_Reply, q_S_reeveref22_Write, q_reeveref22_Desc, q_reeveref1_Geo, q_reeveref22_Write, w1, w2, w3, e1, b1, c1, hg1]
        refine hfail _ _ m' hm' hno (fun x hx hx' => ?_) (fun x hx => ?_) ?_ (by rfl) (by rfl)
        · rw [gset_ne _ _ hx']; exact hsame x hx
        · unfold gset at hx; split at hx
          · omega
          · exact hd x hx
        · simp [gset, noD]
      rw [if_pos (BitVec.not_lt.1 (fun h => c1 (ge31.2 h)))] at hsn
      have hlen := writesG_len l i 8 ws hws
      have hw : IntKind.i64.wrap (uI l[j]) = uI l[j] := by
        have := BitVec.le_def.1 (BitVec.not_lt.1 (fun h => c1 (ge31.2 h)))
        exact wrap_i64 (by simp only [uI]; omega) (by simp only [uI]; simp at this; omega)
      have hb02 : b0 ≠ n2 := by omega
      rcases hV with ⟨rfl, rfl⟩ | ⟨bV, hbV, rfl, hgV⟩
      · simp (maxSteps := 1000000) (disch := first | assumption | omega | rfl | decide | simp only [fitsR, Bool.and_self]) [↓rules, rules, ↓rulesDp, rulesDq, lit_u64, Int.ofNat_inj, stops, q_int, q_bool, q_uint64, q_A4_uint64, q_S_uint64, q_api_Errno, q_reeveref11_Reply, q_S_reeveref22_Write, q_reeveref22_Desc, q_reeveref1_Geo, q_reeveref22_Write, w1, w2, w3, e1, b1, c1, hr2, e2, b2, conv_of_u64 tu_uint64 tu_int, hw, zeroRow_pair']
        refine ⟨by omega, many - (i + 1), by omega, i + 1, rfl, by omega, by omega, _, _, hsn, fun x hx => ?_, fun x hx => ?_, rfl, Or.inr ⟨m' + 1, by omega, ?_, ?_⟩, ?_⟩
        · rw [if_neg (by omega), if_neg (by omega), if_neg (by omega)]; exact hsame x hx
        · refine Classical.byContradiction fun hc => hx ?_
          rw [if_neg (by omega), if_neg (by omega), if_neg (by omega)]
          exact Classical.byContradiction fun h => hc (by have := hd x h; omega)
        · rfl
        · simp only [gset]; rw [if_neg (by omega), if_pos trivial]; rfl
        · exact wrap_i64 (by omega) (by omega)
      · have hbm := hd bV (by rw [hgV]; simp)
        have hbn1 : bV ≠ m' := by omega
        have hsz : (i + 1) * 16 ≤ 70368744177664 := by omega
        have hsz2 : i ≤ 70368744177663 := by omega
        have hfl : (ws.flatMap cW).length = i * 2 := by rw [flat_length (enc := cW) (e := 2) (fun _ => rfl), hlen]
        have htc : (ws ++ [(⟨uI l[j], l[j1]⟩ : Wr)]).flatMap cW = ws.flatMap cW ++ [.int .i64 (uI l[j]), U l[j1]] := by rw [List.flatMap_append]; rfl
        generalize hcs : ws.flatMap cW = cs at hfl hgV htc
        simp (maxSteps := 1000000) (disch := first | assumption | omega | rfl | decide | simp only [fitsR, Bool.and_self]) [↓rules, rules, ↓rulesDp, rulesDq, lit_u64, Int.ofNat_inj, stops, q_int, q_bool, q_uint64, q_A4_uint64, q_S_uint64, q_api_Errno, q_reeveref11_Reply, q_S_reeveref22_Write, q_reeveref22_Desc, q_reeveref1_Geo, q_reeveref22_Write, w1, w2, w3, e1, b1, c1, hr2, e2, b2, conv_of_u64 tu_uint64 tu_int, hw, zeroRow_pair', hgV, hbn1, hlen, hsz, hsz2, hfl]
        refine ⟨by omega, by omega, many - (i + 1), by omega, i + 1, rfl, by omega, by omega, _, _, hsn, fun x hx => ?_, fun x hx => ?_, rfl, Or.inr ⟨m' + 1, by omega, ?_, ?_⟩, ?_⟩
        · rw [if_neg (by omega), if_neg (by omega), if_neg (by omega), if_neg (by omega)]; exact hsame x hx
        · refine Classical.byContradiction fun hc => hx ?_
          rw [if_neg (by omega), if_neg (by omega)]
          split
          · rfl
          · rw [if_neg (by omega)]
            exact Classical.byContradiction fun h => hc (by have := hd x h; omega)
        · simp only [List.length_append, hlen, List.length_cons, List.length_nil]
        · simp only [gset]; rw [if_neg (by omega), if_pos trivial, htc]
        · exact wrap_i64 (by omega) (by omega)
    · have : i = many := by omega
      subst this
      simp (maxSteps := 1000000) (disch := first | assumption | omega | rfl | decide | simp only [fitsR, Bool.and_self]) [↓rules, rules, ↓rulesDp, rulesDq, lit_u64, Int.ofNat_inj, stops]
      exact hend _ _ _ V ws hm' hws hsame hd hr2 hV (by rfl) (by rfl) (by rfl) (by rfl)
  · exact ⟨0, .slice none 0 0, [], by simp, by omega, Nat.le_refl _, rfl, fun _ _ => rfl, hdom, hrow, Or.inl ⟨rfl, rfl⟩, by rfl⟩
end Go.Proofs.Ytafpgojoemcgnaa.F24

namespace Go.Proofs.Ytafpgojoemcgnaa.F24
open Go Go.Proofs Go.Proofs.YtafpgojoemcgnaaAbs
set_option maxHeartbeats 8000000
set_option maxRecDepth 100000
theorem fst_deG {l : List (BitVec 64)} {d : De} (hd : deG l = d) (hk : manyG l ≤ 600) : fstR d (manyG l) = l.getD 0 0#64 := by
  subst hd
  have hq : (l.getD 0 0#64 >>> 32).toNat = (l.getD 0 0#64).toNat / 4294967296 := by rw [BitVec.toNat_ushiftRight, Nat.shiftRight_eq_div_pow]
  have hlt := (l.getD 0 0#64).isLt
  generalize hw : l.getD 0 0#64 = w at hq hlt ⊢
  have e1 : (deG l).s = ((w.toNat % 256 : Nat) : Int) := by rw [deG, hw]; simp only [uI]; omega
  have e2 : (deG l).e = ((w.toNat / 256 % 256 : Nat) : Int) := by rw [deG, hw]; simp only [uI]; omega
  have e3 : (deG l).q = w >>> 32 := by rw [deG, hw]
  have e4 : manyG l = w.toNat / 65536 % 65536 := by rw [manyG, hw]
  rw [fstR, e1, e2, e3, e4, if_pos ⟨by omega, by omega, by omega, by omega, by rw [BitVec.lt_def, hq]; simp only [BitVec.toNat_ofNat]; omega, by omega⟩]
  apply BitVec.eq_of_toNat_eq
  have a1 : (BitVec.ofInt 64 ((w.toNat % 256 : Nat) : Int)).toNat = w.toNat % 256 := by rw [ofInt_nat (by omega) (by omega)]; omega
  have a2 : (BitVec.ofInt 64 ((w.toNat / 256 % 256 : Nat) : Int)).toNat = w.toNat / 256 % 256 := by rw [ofInt_nat (by omega) (by omega)]; omega
  have a3 : (BitVec.ofNat 64 (w.toNat / 65536 % 65536)).toNat = w.toNat / 65536 % 65536 := by rw [BitVec.toNat_ofNat]; omega
  rw [sum_nat (by omega) (by omega) (by omega) (by omega), a1, a2, a3, hq]
  omega
theorem GetDesc (a b c : Int) (L : Value) (l : List (BitVec 64)) (g : AMem) (n : Nat) (hdom : ∀ i, g i ≠ none → i < n) (hl : l.length < 4611686018427387904) (hv : rdW g L l) :
    FnS Try.prog f_reeveref22_GetDesc [gv a b c, L] g n (fun _ => False) fun r g' n' => GetR n g' r (getDe a b c l) ∧ Kept g n g' n' := by
  refine fnS_of_rwp t_reeveref22_GetDesc hm rfl hdom ?_
  obtain ⟨va, ve, hvf⟩ := hv.form
  simp (maxSteps := 1000000) (disch := first | assumption | omega | rfl | decide | simp only [fitsR, Bool.and_self]) [↓rules, rules, ↓rulesDp, rulesDq, lit_u64, Int.ofNat_inj, stops, rc_reeveref22_GetDesc, q_int, q_bool, q_uint64, q_A4_uint64, q_S_uint64, q_api_Errno, q_reeveref11_Reply, q_S_reeveref22_Write, q_reeveref22_Desc, q_reeveref1_Geo, q_reeveref22_Write]
  refine rcall_quiet rfl (DescR _ _ _ _ _ _) ?_
  cases hg : goodG a b c
  · rw [show descG a b c 0 = (0, 0) by rw [descG, if_neg (fun h => by rw [hg] at h; cases h.1)]]
    simp (maxSteps := 1000000) (disch := first | assumption | omega | rfl | decide | simp only [fitsR, Bool.and_self]) [↓rules, rules, ↓rulesDp, rulesDq, lit_u64, Int.ofNat_inj, stops, q_int, q_bool, q_uint64, q_A4_uint64, q_S_uint64, q_api_Errno, q_reeveref11_Reply, q_S_reeveref22_Write, q_reeveref22_Desc, q_reeveref1_Geo, q_reeveref22_Write]
    refine sdone_ret (v := .tuple #[vD noD (.slice none 0 0), .bool false]) (by simp (maxSteps := 1000000) (disch := first | assumption | omega | rfl | decide | simp only [fitsR, Bool.and_self]) [↓rules, rules, ↓rulesDp, rulesDq, lit_u64, Int.ofNat_inj, stops, aResults, aRes, q_int, q_bool, q_uint64, q_A4_uint64, q_S_uint64, q_api_Errno, q_reeveref11_Reply, q_S_reeveref22_Write, q_reeveref22_Desc, q_reeveref1_Geo, q_reeveref22_Write, noD]) ⟨⟨_, by rw [getDe_no (Or.inl hg)], Or.inl ⟨by rw [getDe_no (Or.inl hg)], rfl⟩⟩, (by repeat first | exact Kept.refl hdom | refine Kept.new ?_ _ | refine Kept.drop ?_ (by omega) | refine Kept.put ?_ (by omega) (by omega) _ | refine Kept.skip ?_)⟩
  have ok := goodG_iff.1 hg
  rw [show descG a b c 0 = (16, 1208) by rw [descG, if_pos ⟨hg, by omega, by omega⟩]; rfl]
  by_cases hn : l.length = 1208
  case neg =>
    have hn' : ¬ (l.length : Int) = 1208 := by omega
    simp (maxSteps := 1000000) (disch := first | assumption | omega | rfl | decide | simp only [fitsR, Bool.and_self]) [↓rules, rules, ↓rulesDp, rulesDq, lit_u64, Int.ofNat_inj, stops, q_int, q_bool, q_uint64, q_A4_uint64, q_S_uint64, q_api_Errno, q_reeveref11_Reply, q_S_reeveref22_Write, q_reeveref22_Desc, q_reeveref1_Geo, q_reeveref22_Write, hvf, hn']
    refine sdone_ret (v := .tuple #[vD noD (.slice none 0 0), .bool false]) (by simp (maxSteps := 1000000) (disch := first | assumption | omega | rfl | decide | simp only [fitsR, Bool.and_self]) [↓rules, rules, ↓rulesDp, rulesDq, lit_u64, Int.ofNat_inj, stops, aResults, aRes, q_int, q_bool, q_uint64, q_A4_uint64, q_S_uint64, q_api_Errno, q_reeveref11_Reply, q_S_reeveref22_Write, q_reeveref22_Desc, q_reeveref1_Geo, q_reeveref22_Write, noD]) ⟨⟨_, by rw [getDe_no (Or.inr hn)], Or.inl ⟨by rw [getDe_no (Or.inr hn)], rfl⟩⟩, (by repeat first | exact Kept.refl hdom | refine Kept.new ?_ _ | refine Kept.drop ?_ (by omega) | refine Kept.put ?_ (by omega) (by omega) _ | refine Kept.skip ?_)⟩
  have hn' : (l.length : Int) = 1208 := by omega
  obtain ⟨b0, o0, cs0, r0, h0, hb0, hnth⟩ := rd_nths (f := U) hv (by omega)
  have hb0n := hdom b0 (by rw [hb0]; simp)
  subst h0
  have hel : ∀ (i : Nat) (hi : i < l.length) (g2 : AMem), g2 b0 = g b0 → ∀ (P : Program) (t : TypeId), tagg P t = some false → aLoad P g2 t (.pointer (some ⟨b0, o0 + i, none⟩)) = some (U l[i]) := fun i hi g2 hx P t ht => load_elem1 (hx.trans hb0) ht (hnth i hi)
  generalize hG : gset _ _ _ = G
  have kb : Kept g n G (n + 1 + 1) := by rw [← hG]; exact (by repeat first | exact Kept.refl hdom | refine Kept.new ?_ _ | refine Kept.drop ?_ (by omega) | refine Kept.put ?_ (by omega) (by omega) _ | refine Kept.skip ?_)
  have p0 : G n = some (.row [.int .i64 a, .int .i64 b, .int .i64 c] true) := by rw [← hG]; simp [gset]
  have p1 : G (n + 1) = some (.row (cD noD (.slice none 0 0)) true) := by rw [← hG]; simp [gset, noD]
  have w0 := hel 0 (by omega) G (kb.same b0 hb0n) Try.prog _ ta_uint64
  have w7 := hel 7 (by omega) G (kb.same b0 hb0n) Try.prog _ ta_uint64
  simp only [Nat.add_zero] at w0
  clear hG
  have h7 : (7 : Int) < l.length := by omega
  have hbn : b0 ≠ n + 1 := by omega
  simp (maxSteps := 1000000) (disch := first | assumption | omega | rfl | decide | simp only [fitsR, Bool.and_self]) [↓rules, rules, ↓rulesDp, rulesDq, lit_u64, Int.ofNat_inj, stops, q_int, q_bool, q_uint64, q_A4_uint64, q_S_uint64, q_api_Errno, q_reeveref11_Reply, q_S_reeveref22_Write, q_reeveref22_Desc, q_reeveref1_Geo, q_reeveref22_Write, hn, hn', w0]
  have gD : ∀ (i : Nat) (h : i < l.length), l.getD i 0#64 = l[i] := fun i h => by simp [List.getD_eq_getElem?_getD, h]
  by_cases z : l[0] = 0#64
  · simp (maxSteps := 1000000) (disch := first | assumption | omega | rfl | decide | simp only [fitsR, Bool.and_self]) [↓rules, rules, ↓rulesDp, rulesDq, lit_u64, Int.ofNat_inj, stops, q_int, q_bool, q_uint64, q_A4_uint64, q_S_uint64, q_api_Errno, q_reeveref11_Reply, q_S_reeveref22_Write, q_reeveref22_Desc, q_reeveref1_Geo, q_reeveref22_Write, z, w7, h7, hbn, p1]
    have hz : getDe a b c l = (noD, [], decide (l[7] = 0#64)) := by
      rw [getDe, if_pos ⟨hg, hn⟩, gD 0 (by omega), gD 7 (by omega), if_pos z]
    rw [hz]
    refine sdone_ret (v := .tuple #[vD noD (.slice none 0 0), .bool (decide (l[7] = 0#64))]) (by simp (maxSteps := 1000000) (disch := first | assumption | omega | rfl | decide | simp only [fitsR, Bool.and_self]) [↓rules, rules, ↓rulesDp, rulesDq, lit_u64, Int.ofNat_inj, stops, aResults, aRes, q_int, q_bool, q_uint64, q_A4_uint64, q_S_uint64, q_api_Errno, q_reeveref11_Reply, q_S_reeveref22_Write, q_reeveref22_Desc, q_reeveref1_Geo, q_reeveref22_Write, noD]) ⟨⟨_, rfl, Or.inl ⟨rfl, rfl⟩⟩, Kept.put kb (by omega) (by omega) _⟩
  simp (maxSteps := 1000000) (disch := first | assumption | omega | rfl | decide | simp only [fitsR, Bool.and_self]) [↓rules, rules, ↓rulesDp, rulesDq, lit_u64, Int.ofNat_inj, stops, q_int, q_bool, q_uint64, q_A4_uint64, q_S_uint64, q_api_Errno, q_reeveref11_Reply, q_S_reeveref22_Write, q_reeveref22_Desc, q_reeveref1_Geo, q_reeveref22_Write, z, w0, hn']
  have hd0 : l.getD 0 0#64 = l[0] := gD 0 (by omega)
  have s0 : IntKind.i64.wrap (uI (l[0] % 256#64)) = (deG l).s := by
    have e : uI (l[0] % 256#64) = (deG l).s := by
      simp only [uI, deG, BitVec.toNat_umod, hd0, show (256#64 : BitVec 64).toNat = 256 from rfl]; omega
    rw [e]; exact wrap_i64 (by rw [← e]; simp only [uI]; omega) (by rw [deG]; simp only; omega)
  have s1 : IntKind.i64.wrap (uI (l[0] / 256#64 % 256#64)) = (deG l).e := by
    have e : uI (l[0] / 256#64 % 256#64) = (deG l).e := by
      simp only [uI, deG, BitVec.toNat_umod, BitVec.toNat_udiv, hd0, show (256#64 : BitVec 64).toNat = 256 from rfl]; omega
    rw [e]; exact wrap_i64 (by rw [← e]; simp only [uI]; omega) (by rw [deG]; simp only; omega)
  have s2' : IntKind.i64.wrap (uI (l[0] / 65536#64 % 65536#64)) = (manyG l : Int) := by
    have e : uI (l[0] / 65536#64 % 65536#64) = (manyG l : Int) := by
      simp only [uI, manyG, BitVec.toNat_umod, BitVec.toNat_udiv, hd0, show (65536#64 : BitVec 64).toNat = 65536 from rfl]
    rw [e]; exact wrap_i64 (by omega) (by rw [manyG]; omega)
  have sq : l[0] / 4294967296#64 = (deG l).q := by
    apply BitVec.eq_of_toNat_eq
    rw [BitVec.toNat_udiv, deG, hd0, BitVec.toNat_ushiftRight, Nat.shiftRight_eq_div_pow]
    rfl
  have t1 : l[1] = (deG l).l0 := (gD 1 (by omega)).symm
  have t2 : l[2] = (deG l).l1 := (gD 2 (by omega)).symm
  have t3 : l[3] = (deG l).l2 := (gD 3 (by omega)).symm
  have t4 : l[4] = (deG l).l3 := (gD 4 (by omega)).symm
  have t5 : l[5] = if (deG l).s = 1 then l[5] else (deG l).w := by
    split
    · rfl
    · rename_i h; rw [deG] at h ⊢; simp only at h ⊢; rw [if_neg h]; exact (gD 5 (by omega)).symm
  have t6 : uI l[6] = if (deG l).s = 1 then uI l[6] else (deG l).n := by
    split
    · rfl
    · rename_i h; rw [deG] at h ⊢; simp only at h ⊢; rw [if_neg h, gD 6 (by omega)]
  have t7 : (deG l).s = 1 → (deG l).w = 0#64 ∧ (deG l).n = 0 := fun h => by
    rw [deG] at h ⊢; simp only at h ⊢; rw [if_pos h, if_pos h]; exact ⟨rfl, rfl⟩
  have hget : getDe a b c l = if manyG l ≤ 600 ∧ ((deG l).s = 1 ∨ l[6] ≤ 2147483647#64) then
      match writesG l 8 (manyG l) with
      | some ws => if goodD a b c (deG l) ws = true ∧ l[7] = 0#64 then (deG l, ws, true) else (noD, [], false)
      | none => (noD, [], false)
    else (noD, [], false) := by
    rw [getDe, if_pos ⟨hg, hn⟩, hd0, if_neg z, gD 6 (by omega), gD 7 (by omega)]
    try rfl
  generalize getDe a b c l = res at hget ⊢
  have hfst : ∀ {d : De} (h1 : deG l = d) (h2 : manyG l ≤ 600), fstR d (manyG l) = l[0] := fun h1 h2 => (fst_deG h1 h2).trans hd0
  have hfst := fun h2 => @hfst _ rfl h2
  generalize deG l = D at hfst s0 s1 sq t1 t2 t3 t4 t5 t6 t7 hget ⊢
  generalize hmany : manyG l = many at s2' hfst hget ⊢
  have m16 : many < 65536 := by rw [← hmany, manyG]; omega
  have w1 := hel 1 (by omega) G (kb.same b0 hb0n) Try.prog _ ta_uint64
  have w2 := hel 2 (by omega) G (kb.same b0 hb0n) Try.prog _ ta_uint64
  have w3 := hel 3 (by omega) G (kb.same b0 hb0n) Try.prog _ ta_uint64
  have w4 := hel 4 (by omega) G (kb.same b0 hb0n) Try.prog _ ta_uint64
  have w5 := hel 5 (by omega) G (kb.same b0 hb0n) Try.prog _ ta_uint64
  have w6 := hel 6 (by omega) G (kb.same b0 hb0n) Try.prog _ ta_uint64
  rw [aLoad_eq, ta_uint64, ts_uint64] at w0 w1 w2 w3 w4 w5 w6 w7
  simp (maxSteps := 1000000) (disch := first | assumption | omega | rfl | decide | simp only [fitsR, Bool.and_self]) [↓rules, rules, ↓rulesDp, rulesDq, lit_u64, Int.ofNat_inj, stops, q_int, q_bool, q_uint64, q_A4_uint64, q_S_uint64, q_api_Errno, q_reeveref11_Reply, q_S_reeveref22_Write, q_reeveref22_Desc, q_reeveref1_Geo, q_reeveref22_Write, w0, w1, w2, w3, w4, hn, conv_of_u64 tu_uint64 tu_int, conv_of_u64 tu_uint64 tu_api_Errno, s0, s1, s2', sq, p1, hbn, t1, t2, t3, t4]
  refine ⟨by omega, ?_⟩
  generalize hH : gset _ _ _ = H0
  have kH0 : Kept g n H0 (n + 1 + 1 + 1) := by rw [← hH]; exact ((kb.new _).put (by omega) (by omega) _).put (by omega) (by omega) _
  have h2' : H0 (n + 1 + 1) = some (.row [.int .i64 D.s, U D.q, U D.l0, U D.l1, U D.l2, U D.l3, .int .i64 D.e, U 0#64, .int .i64 0, .slice none 0 0] true) := by rw [← hH]; simp [gset]
  have h1' : H0 (n + 1) = some (.row (cD noD (.slice none 0 0)) true) := by rw [← hH]; simp only [gset]; rw [if_neg (by omega), if_neg (by omega), if_neg (by omega)]; exact p1
  have h0' : H0 n = some (.row [.int .i64 a, .int .i64 b, .int .i64 c] true) := by rw [← hH]; simp only [gset]; rw [if_neg (by omega), if_neg (by omega), if_neg (by omega)]; exact p0
  clear hH
  have hne : b0 ≠ n + 1 + 1 := by omega
  have hne2 : n + 1 ≠ n + 1 + 1 := by omega
  have v5 := hel 5 (by omega) H0 (kH0.same b0 hb0n) Try.prog _ ta_uint64
  have v6 := hel 6 (by omega) H0 (kH0.same b0 hb0n) Try.prog _ ta_uint64
  have v7 := hel 7 (by omega) H0 (kH0.same b0 hb0n) Try.prog _ ta_uint64
  rw [aLoad_eq, ta_uint64, ts_uint64] at v5 v6 v7
  by_cases c1 : 600 < (many : Int)
  · simp (maxSteps := 1000000) (disch := first | assumption | omega | rfl | decide | simp only [fitsR, Bool.and_self]) [↓rules, rules, ↓rulesDp, rulesDq, lit_u64, Int.ofNat_inj, stops, q_int, q_bool, q_uint64, q_A4_uint64, q_S_uint64, q_api_Errno, q_reeveref11_Reply, q_S_reeveref22_Write, q_reeveref22_Desc, q_reeveref1_Geo, q_reeveref22_Write, v5, v6, v7, h1', h2', hn, conv_of_u64 tu_uint64 tu_int, hne, hne2, c1]
    rw [if_neg (fun h => by omega)] at hget
    subst hget
    refine sdone_ret (v := .tuple #[vD noD (.slice none 0 0), .bool false]) (by simp (maxSteps := 1000000) (disch := first | assumption | omega | rfl | decide | simp only [fitsR, Bool.and_self]) [↓rules, rules, ↓rulesDp, rulesDq, lit_u64, Int.ofNat_inj, stops, aResults, aRes, q_int, q_bool, q_uint64, q_A4_uint64, q_S_uint64, q_api_Errno, q_reeveref11_Reply, q_S_reeveref22_Write, q_reeveref22_Desc, q_reeveref1_Geo, q_reeveref22_Write, noD]) ⟨⟨_, rfl, Or.inl ⟨rfl, rfl⟩⟩, (by repeat first | exact kH0 | refine Kept.new ?_ _ | refine Kept.drop ?_ (by omega) | refine Kept.put ?_ (by omega) (by omega) _ | refine Kept.skip ?_)⟩
  by_cases c7 : l[7] = 0#64
  case neg =>
    have hget : res = (noD, [], false) := by
      rw [hget]
      split
      · split
        · rw [if_neg (fun h => c7 h.2)]
        · rfl
      · rfl
    subst hget
    simp (maxSteps := 1000000) (disch := first | assumption | omega | rfl | decide | simp only [fitsR, Bool.and_self]) [↓rules, rules, ↓rulesDp, rulesDq, lit_u64, Int.ofNat_inj, stops, q_int, q_bool, q_uint64, q_A4_uint64, q_S_uint64, q_api_Errno, q_reeveref11_Reply, q_S_reeveref22_Write, q_reeveref22_Desc, q_reeveref1_Geo, q_reeveref22_Write, v5, v6, v7, h1', h2', hn, conv_of_u64 tu_uint64 tu_int, hne, hne2, c1, c7]
    refine sdone_ret (v := .tuple #[vD noD (.slice none 0 0), .bool false]) (by simp (maxSteps := 1000000) (disch := first | assumption | omega | rfl | decide | simp only [fitsR, Bool.and_self]) [↓rules, rules, ↓rulesDp, rulesDq, lit_u64, Int.ofNat_inj, stops, aResults, aRes, q_int, q_bool, q_uint64, q_A4_uint64, q_S_uint64, q_api_Errno, q_reeveref11_Reply, q_S_reeveref22_Write, q_reeveref22_Desc, q_reeveref1_Geo, q_reeveref22_Write, noD]) ⟨⟨_, rfl, Or.inl ⟨rfl, rfl⟩⟩, (by repeat first | exact kH0 | refine Kept.new ?_ _ | refine Kept.drop ?_ (by omega) | refine Kept.put ?_ (by omega) (by omega) _ | refine Kept.skip ?_)⟩
  rcases Decidable.em (D.s = 1) with c2 | c2
  focus
    simp (maxSteps := 1000000) (disch := first | assumption | omega | rfl | decide | simp only [fitsR, Bool.and_self]) [↓rules, rules, ↓rulesDp, rulesDq, lit_u64, Int.ofNat_inj, stops, q_int, q_bool, q_uint64, q_A4_uint64, q_S_uint64, q_api_Errno, q_reeveref11_Reply, q_S_reeveref22_Write, q_reeveref22_Desc, q_reeveref1_Geo, q_reeveref22_Write, v5, v6, v7, h1', h2', hn, conv_of_u64 tu_uint64 tu_int, hne, hne2, c1, c7, c2]
    have hHrow : H0 (n + 1 + 1) = some (.row (cD D (.slice none 0 0)) true) := by rw [h2']; simp [c2, (t7 c2).1, (t7 c2).2]
    obtain ⟨H, hHH⟩ : ∃ H, H = H0 := ⟨_, rfl⟩
    subst hHH
    have kH : Kept g n H (n + 1 + 1 + 1) := kH0
    have hH0 := h0'
    have hH1 := h1'
    have hc3 : D.s = 1 ∨ l[6] ≤ 2147483647#64 := Or.inl c2
    clear kH0 h0' h1' h2' v5 v6 v7
  rotate_left
  focus
    by_cases c3 : 2147483648#64 ≤ l[6]
    · rw [if_neg (fun h => h.2.elim c2 (fun h => BitVec.not_le.2 (ge31.1 c3) h))] at hget
      subst hget
      simp (maxSteps := 1000000) (disch := first | assumption | omega | rfl | decide | simp only [fitsR, Bool.and_self]) [↓rules, rules, ↓rulesDp, rulesDq, lit_u64, Int.ofNat_inj, stops, q_int, q_bool, q_uint64, q_A4_uint64, q_S_uint64, q_api_Errno, q_reeveref11_Reply, q_S_reeveref22_Write, q_reeveref22_Desc, q_reeveref1_Geo, q_reeveref22_Write, v5, v6, v7, h1', h2', hn, conv_of_u64 tu_uint64 tu_int, hne, hne2, c1, c7, c2, c3]
      refine sdone_ret (v := .tuple #[vD noD (.slice none 0 0), .bool false]) (by simp (maxSteps := 1000000) (disch := first | assumption | omega | rfl | decide | simp only [fitsR, Bool.and_self]) [↓rules, rules, ↓rulesDp, rulesDq, lit_u64, Int.ofNat_inj, stops, aResults, aRes, q_int, q_bool, q_uint64, q_A4_uint64, q_S_uint64, q_api_Errno, q_reeveref11_Reply, q_S_reeveref22_Write, q_reeveref22_Desc, q_reeveref1_Geo, q_reeveref22_Write, noD]) ⟨⟨_, rfl, Or.inl ⟨rfl, rfl⟩⟩, (by repeat first | exact kH0 | refine Kept.new ?_ _ | refine Kept.drop ?_ (by omega) | refine Kept.put ?_ (by omega) (by omega) _ | refine Kept.skip ?_)⟩
    have hle : l[6] ≤ 2147483647#64 := BitVec.not_lt.1 (fun h => c3 (ge31.2 h))
    have h6w : IntKind.i64.wrap (uI l[6]) = uI l[6] := by
      have := BitVec.le_def.1 hle
      exact wrap_i64 (by simp only [uI]; omega) (by simp only [uI]; simp at this; omega)
    simp (maxSteps := 1000000) (disch := first | assumption | omega | rfl | decide | simp only [fitsR, Bool.and_self]) [↓rules, rules, ↓rulesDp, rulesDq, lit_u64, Int.ofNat_inj, stops, q_int, q_bool, q_uint64, q_A4_uint64, q_S_uint64, q_api_Errno, q_reeveref11_Reply, q_S_reeveref22_Write, q_reeveref22_Desc, q_reeveref1_Geo, q_reeveref22_Write, v5, v6, v7, h1', h2', hn, conv_of_u64 tu_uint64 tu_int, hne, hne2, c1, c7, c2, c3, h6w]
    refine ⟨by omega, ?_⟩
    generalize hH : gset _ _ _ = H
    have kH : Kept g n H (n + 1 + 1 + 1) := by rw [← hH]; repeat first | exact kH0 | refine Kept.put ?_ (by omega) (by omega) _
    have hHrow : H (n + 1 + 1) = some (.row (cD D (.slice none 0 0)) true) := by rw [← hH]; simp [gset]; rw [if_neg c2] at t5 t6; exact ⟨by rw [t5], t6⟩
    have hc3 : D.s = 1 ∨ l[6] ≤ 2147483647#64 := Or.inr hle
    have hH0 : H n = some (.row [.int .i64 a, .int .i64 b, .int .i64 c] true) := by rw [← hH]; simp only [gset]; rw [if_neg (by omega)]; exact h0'
    have hH1 : H (n + 1) = some (.row (cD noD (.slice none 0 0)) true) := by rw [← hH]; simp only [gset]; rw [if_neg (by omega)]; exact h1'
    clear hH kH0 h0' h1' h2' v5 v6 v7
  all_goals
    refine gd_loop (n := n) (D := D) (many := many) hn (by omega) hb0n (by omega) (by omega) kH.dom (fun i hi g3 hx P t ht => hel i hi g3 (hx.trans (kH.same b0 hb0n)) P t ht) hHrow ?_ ?_ hH1
    · intro l' g' m' hm' hw hsame hd hrow h4 h5
      rw [if_pos ⟨by omega, hc3⟩, hw] at hget
      have hget : res = (noD, [], false) := hget
      subst hget
      simp only [inBlockR_ret, thenR_ret]
      refine sdone_ret (v := .tuple #[vD noD (.slice none 0 0), .bool false]) (by simp (maxSteps := 1000000) (disch := first | assumption | omega | rfl | decide | simp only [fitsR, Bool.and_self]) [↓rules, rules, ↓rulesDp, rulesDq, lit_u64, Int.ofNat_inj, stops, aResults, aRes, q_int, q_bool, q_uint64, q_A4_uint64, q_S_uint64, q_api_Errno, q_reeveref11_Reply, q_S_reeveref22_Write, q_reeveref22_Desc, q_reeveref1_Geo, q_reeveref22_Write, h4, h5, hrow]) ⟨⟨_, rfl, Or.inl ⟨rfl, rfl⟩⟩, ?_⟩
      exact ⟨by omega, fun x hx => (hsame x (by omega) (by omega)).trans (kH.same x hx), hd⟩
    · intro l' g' m' V ws hm' hw hsame hd hrow hV h1 h2 h4 h9
      have hg0 := (hsame n (by omega)).trans hH0
      have hg1 := (hsame (n + 1) (by omega)).trans hH1
      have hgb := (hsame b0 (by omega)).trans (kH.same b0 hb0n)
      have e0 := hel 0 (by omega) g' hgb Try.prog _ ta_uint64
      simp only [Nat.add_zero] at e0
      rw [if_pos ⟨by omega, hc3⟩, hw] at hget
      have hget : res = (if goodD a b c D ws = true ∧ l[7] = 0#64 then (D, ws, true) else (noD, [], false)) := hget
      rw [aLoad_eq, ta_uint64, ts_uint64] at e0
      have kE : Kept g n g' m' := ⟨by omega, fun x hx => (hsame x (by omega)).trans (kH.same x hx), hd⟩
      have hlw := writesG_len l _ _ ws hw
      obtain ⟨xa, xe, rfl⟩ := hV.rd.form
      simp (maxSteps := 1000000) (disch := first | assumption | omega | rfl | decide | simp only [fitsR, Bool.and_self]) [↓rules, rules, ↓rulesDp, rulesDq, lit_u64, Int.ofNat_inj, stops, q_int, q_bool, q_uint64, q_A4_uint64, q_S_uint64, q_api_Errno, q_reeveref11_Reply, q_S_reeveref22_Write, q_reeveref22_Desc, q_reeveref1_Geo, q_reeveref22_Write, h1, h2, h4, h9, hg0, hrow]
      refine rcall_quiet rfl (GoodDesc a b c D _ ws _ _ (by omega) hV.rd) ?_
      cases hgo : goodD a b c D ws
      · rw [if_neg (by rw [hgo]; rintro ⟨h, _⟩; cases h)] at hget
        subst hget
        simp (maxSteps := 1000000) (disch := first | assumption | omega | rfl | decide | simp only [fitsR, Bool.and_self]) [↓rules, rules, ↓rulesDp, rulesDq, lit_u64, Int.ofNat_inj, stops, q_int, q_bool, q_uint64, q_A4_uint64, q_S_uint64, q_api_Errno, q_reeveref11_Reply, q_S_reeveref22_Write, q_reeveref22_Desc, q_reeveref1_Geo, q_reeveref22_Write, h1, h2, h4, h9, hg0, hrow, hg1]
        refine sdone_ret (v := .tuple #[vD noD (.slice none 0 0), .bool false]) (by simp (maxSteps := 1000000) (disch := first | assumption | omega | rfl | decide | simp only [fitsR, Bool.and_self]) [↓rules, rules, ↓rulesDp, rulesDq, lit_u64, Int.ofNat_inj, stops, aResults, aRes, q_int, q_bool, q_uint64, q_A4_uint64, q_S_uint64, q_api_Errno, q_reeveref11_Reply, q_S_reeveref22_Write, q_reeveref22_Desc, q_reeveref1_Geo, q_reeveref22_Write, noD]) ⟨⟨_, rfl, Or.inl ⟨rfl, rfl⟩⟩, (by repeat first | exact kE | refine Kept.new ?_ _ | refine Kept.drop ?_ (by omega) | refine Kept.put ?_ (by omega) (by omega) _ | refine Kept.skip ?_)⟩
      · rw [if_pos ⟨hgo, c7⟩] at hget
        subst hget
        simp (maxSteps := 1000000) (disch := first | assumption | omega | rfl | decide | simp only [fitsR, Bool.and_self]) [↓rules, rules, ↓rulesDp, rulesDq, lit_u64, Int.ofNat_inj, stops, q_int, q_bool, q_uint64, q_A4_uint64, q_S_uint64, q_api_Errno, q_reeveref11_Reply, q_S_reeveref22_Write, q_reeveref22_Desc, q_reeveref1_Geo, q_reeveref22_Write, h1, h2, h4, h9, hg0, hrow, hg1]
        refine rcall_quiet rfl (ref_First D _ ws _ _ (by omega) hV.rd) ?_
        rw [hlw, hfst (by omega), ← hlw]
        simp (maxSteps := 1000000) (disch := first | assumption | omega | rfl | decide | simp only [fitsR, Bool.and_self]) [↓rules, rules, ↓rulesDp, rulesDq, lit_u64, Int.ofNat_inj, stops, q_int, q_bool, q_uint64, q_A4_uint64, q_S_uint64, q_api_Errno, q_reeveref11_Reply, q_S_reeveref22_Write, q_reeveref22_Desc, q_reeveref1_Geo, q_reeveref22_Write, h1, h2, h4, h9, hg0, hrow, hg1, e0]
        refine sdone_ret (v := .tuple #[vD D (.slice xa ws.length xe), .bool true]) (by simp (maxSteps := 1000000) (disch := first | assumption | omega | rfl | decide | simp only [fitsR, Bool.and_self]) [↓rules, rules, ↓rulesDp, rulesDq, lit_u64, Int.ofNat_inj, stops, aResults, aRes, q_int, q_bool, q_uint64, q_A4_uint64, q_S_uint64, q_api_Errno, q_reeveref11_Reply, q_S_reeveref22_Write, q_reeveref22_Desc, q_reeveref1_Geo, q_reeveref22_Write]) ⟨⟨_, rfl, hV.put2 (by omega) (by omega)⟩, (by repeat first | exact kE | refine Kept.new ?_ _ | refine Kept.drop ?_ (by omega) | refine Kept.put ?_ (by omega) (by omega) _ | refine Kept.skip ?_)⟩
end Go.Proofs.Ytafpgojoemcgnaa.F24
