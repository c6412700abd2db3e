/- Contracts of functions: what each one returns, and what it leaves. No statement is proved here. -/
import Derived.Test.YtafpgojoemcgnaaP24e
set_option linter.unusedVariables false
set_option linter.unusedSimpArgs false
namespace Go.Proofs.Ytafpgojoemcgnaa.F24
open Go Go.Proofs Go.Proofs.YtafpgojoemcgnaaAbs
set_option maxHeartbeats 8000000
set_option maxRecDepth 100000
/-! What is put is got. -/
theorem putL_len {d : De} {ws : List Wr} (hl : ws.length ≤ 600) : (putL d ws).length = 1208 := by
  simp only [putL, headP, List.length_append, List.length_cons, List.length_nil, flat_length2, List.length_replicate]
  omega
theorem chain_mem {lim : Int} : ∀ {ws : List Wr} {at_ : Int}, chainW lim at_ ws = true → ∀ w ∈ ws, at_ < w.p ∧ w.p < lim
  | [], _, _, w, h => by cases h
  | x :: ws, at_, h, w, hw => by
    rw [chainW, Bool.and_eq_true, Bool.and_eq_true] at h
    have h1 := of_decide_eq_true h.1.1
    have h2 := of_decide_eq_true h.1.2
    rcases List.mem_cons.1 hw with rfl | hw
    · exact ⟨h1, h2⟩
    · have := chain_mem h.2 w hw
      exact ⟨by omega, this.2⟩
theorem goodW_mem {a b c : Int} {ws : List Wr} (h : goodW a b c ws = true) : ∀ w ∈ ws, 0 ≤ w.p ∧ w.p ≤ 2147483647 := by
  intro w hw
  have hg := goodW_len h
  have ok := goodG_iff.1 hg.1
  rw [goodW, Bool.and_eq_true] at h
  have := chain_mem h.2 w hw
  rw [slotG, copyG, if_pos ⟨hg.1, by omega, by omega⟩, if_pos hg.1] at this
  omega
theorem uI_ofInt {x : Int} (h : 0 ≤ x) (h' : x < 18446744073709551616) : uI (BitVec.ofInt 64 x) = x := by
  simp only [uI]; rw [ofInt_nat h h']; omega
theorem writes_flat (l : List (BitVec 64)) : ∀ (ws : List Wr) (k : Nat), (∀ i, i < 2 * ws.length → l.getD (k + i) 0#64 = (ws.flatMap encP).getD i 0#64) → (∀ w ∈ ws, 0 ≤ w.p ∧ w.p ≤ 2147483647) → writesG l k ws.length = some ws
  | [], k, _, _ => rfl
  | w :: ws, k, h, hp => by
    have hw := hp w (by simp)
    have h0 := h 0 (by simp only [List.length_cons]; omega)
    have h1 := h 1 (by simp only [List.length_cons]; omega)
    simp only [Nat.add_zero] at h0
    have e0 : ((w :: ws).flatMap encP).getD 0 0#64 = BitVec.ofInt 64 w.p := rfl
    have e1 : ((w :: ws).flatMap encP).getD 1 0#64 = w.v := rfl
    rw [e0] at h0
    rw [e1] at h1
    have ih := writes_flat l ws (k + 2) (fun i hi => by
      have := h (i + 2) (by simp only [List.length_cons]; omega)
      rw [show k + 2 + i = k + (i + 2) by omega, this]
      rfl) (fun x hx => hp x (by simp [hx]))
    have hn := ofInt_nat hw.1 (show w.p < 18446744073709551616 by omega)
    rw [List.length_cons, writesG, h0, if_pos (by rw [BitVec.le_def, hn]; show w.p.toNat ≤ 2147483647; omega), ih, h1, uI_ofInt hw.1 (by omega)]
    rfl
theorem getDe_of {a b c : Int} {d : De} {ws : List Wr} {l : List (BitVec 64)} (hlen : l.length = 1208) (hg : goodD a b c d ws = true)
    (h : ∀ i, i < 8 + 2 * ws.length → l.getD i 0#64 = (putL d ws).getD i 0#64) : getDe a b c l = (d, ws, true) := by
  have hw := goodD_W hg
  have hgl := goodW_len hw
  have hf := goodD_fst hg
  have g : ∀ i, i < 8 → l.getD i 0#64 = (headP d ws.length).getD i 0#64 := fun i hi => by
    rw [h i (by omega), putL, List.append_assoc]
    simp only [List.getD_eq_getElem?_getD]
    rw [List.getElem?_append_left (by simp [headP]; omega)]
  have g0 : l.getD 0 0#64 = fstP d ws.length := g 0 (by omega)
  have g1 : l.getD 1 0#64 = d.l0 := g 1 (by omega)
  have g2 : l.getD 2 0#64 = d.l1 := g 2 (by omega)
  have g3 : l.getD 3 0#64 = d.l2 := g 3 (by omega)
  have g4 : l.getD 4 0#64 = d.l3 := g 4 (by omega)
  have g5 : l.getD 5 0#64 = d.w := g 5 (by omega)
  have g6 : l.getD 6 0#64 = BitVec.ofInt 64 d.n := g 6 (by omega)
  have g7 : l.getD 7 0#64 = 0#64 := g 7 (by omega)
  rw [getDe, if_pos ⟨hgl.1, hlen⟩, g0, g7]
  by_cases s0 : d.s = 0
  · rw [goodD_zero hgl.1 s0, Bool.and_eq_true, Bool.and_eq_true, Bool.and_eq_true] at hg
    obtain ⟨⟨⟨e1, e2⟩, e3⟩, e4⟩ := hg
    rw [noR_iff] at e1
    obtain ⟨x1, x2, x3⟩ := e1
    have e2 := of_decide_eq_true e2
    replace e3 := of_decide_eq_true e3
    simp only [noL, Bool.and_eq_true, decide_eq_true_eq] at e4
    obtain ⟨y1, y2, y3, y4⟩ := e4
    have ew : ws = [] := List.length_eq_zero_iff.1 e2
    obtain ⟨s, q, l0, l1, l2, l3, e, w, n⟩ := d
    simp only at s0 x1 x2 x3 e3 y1 y2 y3 y4
    subst s0 x1 x2 x3 e3 y1 y2 y3 y4 ew
    have : fstP ⟨0, 0#64, 0#64, 0#64, 0#64, 0#64, 0, 0#64, 0⟩ ([] : List Wr).length = 0#64 := by rw [← hf]; decide
    rw [this, if_pos rfl]; rfl
  have hs : 1 ≤ d.s ∧ d.s ≤ 4 := by
    refine Classical.byContradiction fun hn => ?_
    rw [goodD_status (by omega)] at hg; cases hg
  have hr : rangeD d = true := by rw [goodD, Bool.and_eq_true, Bool.and_eq_true] at hg; exact hg.1.2
  have hr := of_decide_eq_true hr
  have hE : d.s = 1 ∨ d.s = 4 → (noR d && decide (ws.length = 0)) = true := fun h => by
    refine Classical.byContradiction fun hn => ?_
    rw [goodD_empty h (by simpa using hn)] at hg; cases hg
  have hq : seqOk d.q = true := by rw [goodD_rest hs hE, Bool.and_eq_true] at hg; exact hg.2
  simp only [seqOk, Bool.and_eq_true, decide_eq_true_eq, BitVec.le_def] at hq
  have q1 : 1 ≤ d.q.toNat := hq.1
  have q2 : d.q.toNat ≤ 4294967295 := hq.2
  have hfv : (fstP d ws.length).toNat = d.s.toNat + d.e.toNat * 256 + ws.length * 65536 + d.q.toNat * 4294967296 := by
    rw [← hf, fstR, if_pos ⟨by omega, by omega, by omega, by omega, by rw [BitVec.lt_def]; show d.q.toNat < 4294967296; omega, hgl.2⟩]
    have a1 := ofInt_nat (v := d.s) (by omega) (by omega)
    have a2 := ofInt_nat (v := d.e) (by omega) (by omega)
    have a3 : (BitVec.ofNat 64 ws.length).toNat = ws.length := by rw [BitVec.toNat_ofNat]; omega
    rw [sum_nat (by omega) (by omega) (by omega) (by omega), a1, a2, a3]
  have hnz : fstP d ws.length ≠ 0#64 := fun h => by rw [h] at hfv; simp at hfv; omega
  have hm : manyG l = ws.length := by rw [manyG, g0, hfv]; omega
  have hd : deG l = d := by
    have e1 : uI (fstP d ws.length) % 256 = d.s := by simp only [uI]; omega
    have e2 : uI (fstP d ws.length) / 256 % 256 = d.e := by simp only [uI]; omega
    have e3 : fstP d ws.length >>> 32 = d.q := by
      apply BitVec.eq_of_toNat_eq; rw [BitVec.toNat_ushiftRight, Nat.shiftRight_eq_div_pow]; omega
    rw [deG]
    simp only [g0, g1, g2, g3, g4, g5, g6, e1, e2, e3]
    by_cases s1 : d.s = 1
    · have := hE (Or.inl s1)
      rw [Bool.and_eq_true, noR_iff] at this
      obtain ⟨⟨x1, x2, x3⟩, _⟩ := this
      rw [if_pos s1, if_pos s1, ← x2, ← x3]
    · rw [if_neg s1, if_neg s1, uI_ofInt (by omega) (by omega)]
  have hwr : writesG l 8 ws.length = some ws := by
    refine writes_flat l ws 8 (fun i hi => ?_) (goodW_mem hw)
    rw [h (8 + i) (by omega), putL, List.append_assoc]
    simp only [List.getD_eq_getElem?_getD]
    rw [List.getElem?_append_right (by simp [headP]), show 8 + i - (headP d ws.length).length = i by simp [headP], List.getElem?_append_left (by rw [flat_length2]; omega)]
  have hc : ws.length ≤ 600 ∧ (d.s = 1 ∨ l.getD 6 0#64 ≤ 2147483647#64) := by
    refine ⟨hgl.2, ?_⟩
    by_cases s1 : d.s = 1
    · exact Or.inl s1
    · right
      rw [g6, BitVec.le_def, ofInt_nat (by omega) (by omega)]
      show d.n.toNat ≤ 2147483647
      omega
  rw [if_neg hnz, hm, hd, hwr, if_pos hc]
  exact if_pos ⟨hg, rfl⟩
theorem getDe_put {a b c : Int} {d : De} {ws : List Wr} (hg : goodD a b c d ws = true) : getDe a b c (putL d ws) = (d, ws, true) :=
  getDe_of (putL_len (goodW_len (goodD_W hg)).2) hg fun _ _ => rfl
theorem getDe_good {a b c : Int} {l : List (BitVec 64)} (h : (getDe a b c l).2.2 = true) : goodD a b c (getDe a b c l).1 (getDe a b c l).2.1 = true := by
  rw [getDe] at h ⊢
  split at h
  · rename_i h1
    rw [if_pos h1]
    split at h
    · rename_i h2
      rw [if_pos h2]
      have : goodW a b c [] = true := by rw [goodW, h1.1]; rfl
      show goodD a b c noD [] = true
      rw [goodD, this]; rfl
    · rename_i h2
      rw [if_neg h2]
      split at h
      · rename_i h3
        rw [if_pos h3]
        split at h
        · rename_i ws hw
          split at h
          · rename_i h4
            show goodD a b c (if goodD a b c (deG l) ws = true ∧ l.getD 7 0#64 = 0#64 then (deG l, ws, true) else (noD, [], false)).1 _ = true
            rw [if_pos h4]; exact h4.1
          · cases h
        · cases h
      · cases h
  · cases h
theorem getDe_wlen {a b c : Int} {l : List (BitVec 64)} : (getDe a b c l).2.1.length ≤ 600 := by
  rw [getDe]
  split
  · split
    · simp
    · split
      · rename_i h3
        split
        · rename_i ws hw
          split
          · have := writesG_len l _ _ ws hw
            show ws.length ≤ 600
            omega
          · simp
        · simp
      · simp
  · simp
end Go.Proofs.Ytafpgojoemcgnaa.F24

namespace Go.Proofs.Ytafpgojoemcgnaa.F24
open Go Go.Proofs Go.Proofs.YtafpgojoemcgnaaAbs
set_option maxHeartbeats 8000000
set_option maxRecDepth 100000
theorem geoOf (a b c : Int) (g : AMem) (n : Nat) : FnC Try.prog f_reevelaw24_geoOf [gv a b c] g n (fun _ => False) (gv a b c) g n := by
  refine fnC_of_rwp t_reevelaw24_geoOf hm rfl fun hdom => ?_
  simp (maxSteps := 1000000) (disch := first | assumption | omega | rfl | decide | simp only [fitsR, Bool.and_self]) [↓rules, rules, ↓rulesDp, rulesDq, lit_u64, Int.ofNat_inj, stops, rc_reevelaw24_geoOf, q_int, q_geo_Geo, q_reeveref1_Geo]
  refine done_q hdom (by repeat first | exact Kept.refl hdom | refine Kept.new ?_ _ | refine Kept.drop ?_ (by omega) | refine Kept.put ?_ (by omega) (by omega) _ | refine Kept.skip ?_) rfl ?_
  simp (maxSteps := 1000000) (disch := first | assumption | omega | rfl | decide | simp only [fitsR, Bool.and_self]) [↓rules, rules, ↓rulesDp, rulesDq, lit_u64, Int.ofNat_inj, stops, aResults, aRes, q_int, q_geo_Geo, q_reeveref1_Geo]
theorem awakeD_run : xfn Try.prog tab 3000 40 f_reevelaw24_awake [] (fun _ => none) 0 = some ⟨.bool true, fun _ => none, 0, 0, true⟩ := by kernel_rfl
theorem awakeD (g : AMem) (n : Nat) : FnC Try.prog f_reevelaw24_awake [] g n (fun _ => False) (.bool true) g n :=
  FnC.closed (xfn_ok hm tabOk 3000 40 _ _ _ _ _ (fun _ h => absurd rfl h) awakeD_run).2.1 rfl rfl g n
theorem fst_val {a b c : Int} {d : De} {ws : List Wr} (hg : goodD a b c d ws = true) : (fstP d ws.length).toNat = d.s.toNat + d.e.toNat * 256 + ws.length * 65536 + d.q.toNat * 4294967296 ∧ 0 ≤ d.s ∧ d.s ≤ 4 ∧ 0 ≤ d.e ∧ d.e ≤ 255 ∧ d.q.toNat < 4294967296 ∧ ws.length ≤ 600 := by
  have hw := goodD_W hg
  have hgl := goodW_len hw
  have hs : 0 ≤ d.s ∧ d.s ≤ 4 := by
    refine Classical.byContradiction fun hn => ?_
    rw [goodD_status (by omega)] at hg; cases hg
  have hr : rangeD d = true := by
    have h := hg
    rw [goodD, Bool.and_eq_true, Bool.and_eq_true] at h; exact h.1.2
  have hr := of_decide_eq_true hr
  have hq : d.q.toNat < 4294967296 := by
    by_cases s0 : d.s = 0
    · have h := hg
      rw [goodD_zero hgl.1 s0, Bool.and_eq_true, Bool.and_eq_true] at h
      rw [of_decide_eq_true h.1.2]; decide
    · have hE : d.s = 1 ∨ d.s = 4 → (noR d && decide (ws.length = 0)) = true := fun h => by
        refine Classical.byContradiction fun hn => ?_
        rw [goodD_empty h (by simpa using hn)] at hg; cases hg
      have h := hg
      rw [goodD_rest (by omega) hE, Bool.and_eq_true] at h
      have hq := h.2
      simp only [seqOk, Bool.and_eq_true, decide_eq_true_eq, BitVec.le_def] at hq
      have q2 : d.q.toNat ≤ 4294967295 := hq.2
      omega
  refine ⟨?_, hs.1, hs.2, by omega, by omega, hq, hgl.2⟩
  rw [← goodD_fst hg, fstR, if_pos ⟨by omega, by omega, by omega, by omega, by rw [BitVec.lt_def]; exact hq, hgl.2⟩]
  have a1 := ofInt_nat (v := d.s) (by omega) (by omega)
  have a2 := ofInt_nat (v := d.e) (by omega) (by omega)
  have a3 : (BitVec.ofNat 64 ws.length).toNat = ws.length := by rw [BitVec.toNat_ofNat]; omega
  rw [sum_nat (by omega) (by omega) (by omega) hq, a1, a2, a3]
theorem and_low (w : BitVec 64) (k m : Nat) (hm : m = 2 ^ k - 1) (h : k < 64) : (w &&& BitVec.ofNat 64 m).toNat = w.toNat % 2 ^ k := by
  have h2 : 2 ^ k < 2 ^ 64 := Nat.pow_lt_pow_right (by decide) h
  have : 0 < 2 ^ k := Nat.two_pow_pos k
  rw [BitVec.toNat_and, BitVec.toNat_ofNat, Nat.mod_eq_of_lt (by omega), hm, Nat.and_two_pow_sub_one_eq_mod]
theorem OpdFirst (a b c : Int) (d : De) (W : Value) (ws : List Wr) (g : AMem) (n : Nat) (hdom : ∀ i, g i ≠ none → i < n) (hv : rdX g W ws) :
    FnC Try.prog f_reevelaw24_OpdFirst [gv a b c, vD d W] g n (fun _ => False) (.bool true) g n := by
  refine fnC_of_rwp t_reevelaw24_OpdFirst hm rfl fun hdom => ?_
  obtain ⟨va, ve, rfl⟩ := hv.form
  simp (maxSteps := 1000000) (disch := first | assumption | omega | rfl | decide | simp only [fitsR, Bool.and_self]) [↓rules, rules, ↓rulesDp, rulesDq, lit_u64, Int.ofNat_inj, stops, rc_reevelaw24_OpdFirst, q_int, q_bool, q_uint64, q_A4_uint64, q_geo_Geo, q_api_Errno, q_state_Reply, q_S_wset_Write, q_opd_Desc, q_wset_Write]
  refine rcall_quiet rfl (awakeD _ _) ?_
  have k0 : Kept g n (gset (gset g n (some (.row [.int .i64 a, .int .i64 b, .int .i64 c] true))) (n + 1) (some (.row (cD d (.slice va ws.length ve)) true))) (n + 1 + 1) := (by repeat first | exact Kept.refl hdom | refine Kept.new ?_ _ | refine Kept.drop ?_ (by omega) | refine Kept.put ?_ (by omega) (by omega) _ | refine Kept.skip ?_)
  by_cases c1 : 600 < (ws.length : Int)
  · simp (maxSteps := 1000000) (disch := first | assumption | omega | rfl | decide | simp only [fitsR, Bool.and_self]) [↓rules, rules, ↓rulesDp, rulesDq, lit_u64, Int.ofNat_inj, stops, q_int, q_bool, q_uint64, q_A4_uint64, q_geo_Geo, q_api_Errno, q_state_Reply, q_S_wset_Write, q_opd_Desc, q_wset_Write, c1]
    exact done_q hdom k0 rfl rfl
  have hl : ws.length < 4611686018427387904 := by omega
  simp (maxSteps := 1000000) (disch := first | assumption | omega | rfl | decide | simp only [fitsR, Bool.and_self]) [↓rules, rules, ↓rulesDp, rulesDq, lit_u64, Int.ofNat_inj, stops, q_int, q_bool, q_uint64, q_A4_uint64, q_geo_Geo, q_api_Errno, q_state_Reply, q_S_wset_Write, q_opd_Desc, q_wset_Write, c1]
  refine rcall_quiet rfl (opd_Good a b c d _ ws _ _ hl (hv.ext (k0.ext hdom))) ?_
  cases hg : goodD a b c d ws
  · simp (maxSteps := 1000000) (disch := first | assumption | omega | rfl | decide | simp only [fitsR, Bool.and_self]) [↓rules, rules, ↓rulesDp, rulesDq, lit_u64, Int.ofNat_inj, stops, q_int, q_bool, q_uint64, q_A4_uint64, q_geo_Geo, q_api_Errno, q_state_Reply, q_S_wset_Write, q_opd_Desc, q_wset_Write]
    exact done_q hdom k0 rfl rfl
  simp (maxSteps := 1000000) (disch := first | assumption | omega | rfl | decide | simp only [fitsR, Bool.and_self]) [↓rules, rules, ↓rulesDp, rulesDq, lit_u64, Int.ofNat_inj, stops, q_int, q_bool, q_uint64, q_A4_uint64, q_geo_Geo, q_api_Errno, q_state_Reply, q_S_wset_Write, q_opd_Desc, q_wset_Write]
  refine rcall_quiet rfl (opd_First d _ ws _ _ hl (hv.ext (k0.ext hdom))) ?_
  obtain ⟨f0, f1, f2, f3, f4, f5, f6⟩ := fst_val hg
  generalize fstP d ws.length = w at f0 ⊢
  have e1 : IntKind.i64.wrap (uI (w &&& 255#64)) = d.s := by
    have := and_low w 8 255 (by decide) (by decide)
    have e : uI (w &&& 255#64) = d.s := by simp only [uI]; rw [this]; omega
    rw [e]; exact wrap_i64 (by omega) (by omega)
  have e2 : IntKind.i64.wrap (uI (w >>> 8 &&& 255#64)) = d.e := by
    have := and_low (w >>> 8) 8 255 (by decide) (by decide)
    have e : uI (w >>> 8 &&& 255#64) = d.e := by simp only [uI]; rw [this, BitVec.toNat_ushiftRight, Nat.shiftRight_eq_div_pow]; omega
    rw [e]; exact wrap_i64 (by omega) (by omega)
  have e3 : IntKind.i64.wrap (uI (w >>> 16 &&& 65535#64)) = ws.length := by
    have := and_low (w >>> 16) 16 65535 (by decide) (by decide)
    have e : uI (w >>> 16 &&& 65535#64) = ws.length := by simp only [uI]; rw [this, BitVec.toNat_ushiftRight, Nat.shiftRight_eq_div_pow]; omega
    rw [e]; exact wrap_i64 (by omega) (by omega)
  have e4 : w >>> 32 = d.q := by
    apply BitVec.eq_of_toNat_eq; rw [BitVec.toNat_ushiftRight, Nat.shiftRight_eq_div_pow]; omega
  simp (maxSteps := 1000000) (disch := first | assumption | omega | rfl | decide | simp only [fitsR, Bool.and_self]) [↓rules, rules, ↓rulesDp, rulesDq, lit_u64, Int.ofNat_inj, stops, q_int, q_bool, q_uint64, q_A4_uint64, q_geo_Geo, q_api_Errno, q_state_Reply, q_S_wset_Write, q_opd_Desc, q_wset_Write, conv_of_u64 tu_uint64 tu_int, e1, e2, e3, e4]
  exact done_q hdom k0 rfl rfl
end Go.Proofs.Ytafpgojoemcgnaa.F24

namespace Go.Proofs.Ytafpgojoemcgnaa.F24
open Go Go.Proofs Go.Proofs.YtafpgojoemcgnaaAbs
set_option maxHeartbeats 8000000
set_option maxRecDepth 100000
theorem set_map_U (L : List (BitVec 64)) (i : Nat) (v : BitVec 64) (h : i < L.length) : splice (L.map U) i [U v] = (L.set i v).map U := by
  rw [splice_one _ _ _ (by simpa using h), List.map_set]
theorem getD_set_ne (L : List (BitVec 64)) (i j : Nat) (v : BitVec 64) (h : j ≠ i) : (L.set i v).getD j 0#64 = L.getD j 0#64 := by
  simp only [List.getD_eq_getElem?_getD]
  rw [List.getElem?_set_ne (fun e => h e.symm)]
theorem OpdTail (a b c : Int) (d : De) (W : Value) (ws : List Wr) (R : Value) (rs : List (BitVec 64)) (g : AMem) (n : Nat) (hdom : ∀ i, g i ≠ none → i < n) (hv : rdX g W ws) (hrs : rdW g R rs) :
    FnC Try.prog f_reevelaw24_OpdTail [gv a b c, vD d W, R] g n (fun _ => False) (.bool true) g n := by
  refine fnC_of_rwp t_reevelaw24_OpdTail hm rfl fun hdom => ?_
  obtain ⟨va, ve, rfl⟩ := hv.form
  obtain ⟨ra, re, hrf⟩ := hrs.form
  simp (maxSteps := 1000000) (disch := first | assumption | omega | rfl | decide | simp only [fitsR, Bool.and_self]) [↓rules, rules, ↓rulesDp, rulesDq, lit_u64, Int.ofNat_inj, stops, rc_reevelaw24_OpdTail, q_int, q_bool, q_uint64, q_A4_uint64, q_S_uint64, q_geo_Geo, q_api_Errno, q_state_Reply, q_S_wset_Write, q_opd_Desc, q_wset_Write, q_reeveref11_Reply, q_S_reeveref22_Write, q_reeveref22_Desc, q_reeveref22_Write]
  refine rcall_quiet rfl (awakeD _ _) ?_
  have k0 : Kept g n (gset (gset g n (some (.row [.int .i64 a, .int .i64 b, .int .i64 c] true))) (n + 1) (some (.row (cD d (.slice va ws.length ve)) true))) (n + 1 + 1) := (by repeat first | exact Kept.refl hdom | refine Kept.new ?_ _ | refine Kept.drop ?_ (by omega) | refine Kept.put ?_ (by omega) (by omega) _ | refine Kept.skip ?_)
  by_cases c1 : 600 < (ws.length : Int)
  · simp (maxSteps := 1000000) (disch := first | assumption | omega | rfl | decide | simp only [fitsR, Bool.and_self]) [↓rules, rules, ↓rulesDp, rulesDq, lit_u64, Int.ofNat_inj, stops, q_int, q_bool, q_uint64, q_A4_uint64, q_S_uint64, q_geo_Geo, q_api_Errno, q_state_Reply, q_S_wset_Write, q_opd_Desc, q_wset_Write, q_reeveref11_Reply, q_S_reeveref22_Write, q_reeveref22_Desc, q_reeveref22_Write, c1]
    exact done_q hdom k0 rfl rfl
  have hl : ws.length < 4611686018427387904 := by omega
  by_cases c2 : 50 < (rs.length : Int)
  · simp (maxSteps := 1000000) (disch := first | assumption | omega | rfl | decide | simp only [fitsR, Bool.and_self]) [↓rules, rules, ↓rulesDp, rulesDq, lit_u64, Int.ofNat_inj, stops, q_int, q_bool, q_uint64, q_A4_uint64, q_S_uint64, q_geo_Geo, q_api_Errno, q_state_Reply, q_S_wset_Write, q_opd_Desc, q_wset_Write, q_reeveref11_Reply, q_S_reeveref22_Write, q_reeveref22_Desc, q_reeveref22_Write, c1, hrf, c2]
    exact done_q hdom k0 rfl rfl
  simp (maxSteps := 1000000) (disch := first | assumption | omega | rfl | decide | simp only [fitsR, Bool.and_self]) [↓rules, rules, ↓rulesDp, rulesDq, lit_u64, Int.ofNat_inj, stops, q_int, q_bool, q_uint64, q_A4_uint64, q_S_uint64, q_geo_Geo, q_api_Errno, q_state_Reply, q_S_wset_Write, q_opd_Desc, q_wset_Write, q_reeveref11_Reply, q_S_reeveref22_Write, q_reeveref22_Desc, q_reeveref22_Write, c1, hrf, c2]
  rw [← hrf]
  generalize hG : gset _ _ _ = G at k0 ⊢
  have p0 : G n = some (.row [.int .i64 a, .int .i64 b, .int .i64 c] true) := by rw [← hG]; simp [gset]
  have p1 : G (n + 1) = some (.row (cD d (.slice va ws.length ve)) true) := by rw [← hG]; simp [gset]
  clear hG
  refine rcall_quiet rfl (opd_Good a b c d _ ws _ _ hl (hv.ext (k0.ext hdom))) ?_
  cases hg : goodD a b c d ws
  · simp (maxSteps := 1000000) (disch := first | assumption | omega | rfl | decide | simp only [fitsR, Bool.and_self]) [↓rules, rules, ↓rulesDp, rulesDq, lit_u64, Int.ofNat_inj, stops, q_int, q_bool, q_uint64, q_A4_uint64, q_S_uint64, q_geo_Geo, q_api_Errno, q_state_Reply, q_S_wset_Write, q_opd_Desc, q_wset_Write, q_reeveref11_Reply, q_S_reeveref22_Write, q_reeveref22_Desc, q_reeveref22_Write]
    exact done_q hdom k0 rfl rfl
  simp (maxSteps := 1000000) (disch := first | assumption | omega | rfl | decide | simp only [fitsR, Bool.and_self]) [↓rules, rules, ↓rulesDp, rulesDq, lit_u64, Int.ofNat_inj, stops, q_int, q_bool, q_uint64, q_A4_uint64, q_S_uint64, q_geo_Geo, q_api_Errno, q_state_Reply, q_S_wset_Write, q_opd_Desc, q_wset_Write, q_reeveref11_Reply, q_S_reeveref22_Write, q_reeveref22_Desc, q_reeveref22_Write, p0, p1]
  refine rcall_spec (opd_Put a b c d _ ws _ _ k0.dom hl (hv.ext (k0.ext hdom))) rfl (fun _ h => h.elim) rfl fun v g1 n1 ⟨r1, k1⟩ => ?_
  rcases r1 with ⟨h, _⟩ | ⟨_, B, hB, rfl, hrow⟩
  · rw [hg] at h; cases h
  have kk := k0.trans k1
  have q0 := (k1.same n (by omega)).trans p0
  have q1 := (k1.same (n + 1) (by omega)).trans p1
  have hBn := k1.dom B (by rw [hrow]; simp)
  have l1 := k1.le
  have hLlen := putL_len (d := d) (ws := ws) (by omega)
  simp (maxSteps := 1000000) (disch := first | assumption | omega | rfl | decide | simp only [fitsR, Bool.and_self]) [↓rules, rules, ↓rulesDp, rulesDq, lit_u64, Int.ofNat_inj, stops, q_int, q_bool, q_uint64, q_A4_uint64, q_S_uint64, q_geo_Geo, q_api_Errno, q_state_Reply, q_S_wset_Write, q_opd_Desc, q_wset_Write, q_reeveref11_Reply, q_S_reeveref22_Write, q_reeveref22_Desc, q_reeveref22_Write]
  refine rwp_loop (fun k l g' n' => ∃ (i : Nat) (L : List (BitVec 64)), k = rs.length - i ∧ i ≤ rs.length ∧ n1 = n' ∧ L.length = 1208 ∧ (∀ j, j < 8 + 2 * ws.length → L.getD j 0#64 = (putL d ws).getD j 0#64) ∧ g' B = some (.row (L.map U) true) ∧ (∀ x, x ≠ B → g' x = g1 x) ∧
    l = [(2, R), (3, .pointer (some ⟨n, 0, none⟩)), (4, .pointer (some ⟨n + 1, 0, none⟩)), (7, .slice (some ⟨B, 0, none⟩) 1208 1), (8, .int .i64 i)]) ?_ (k := rs.length) ?_
  · rintro k l g' n' ⟨i, L, rfl, hi, rfl, hL, hLe, hLr, hsame, rfl⟩
    have kg' : Kept g n g' n1 := ⟨kk.le, fun x hx => (hsame x (by omega)).trans (kk.same x hx), fun x hx => by
      by_cases e : x = B
      · omega
      · rw [hsame x e] at hx; exact kk.dom x hx⟩
    have x0 := (hsame n (by omega)).trans q0
    have x1 := (hsame (n + 1) (by omega)).trans q1
    simp (maxSteps := 1000000) (disch := first | assumption | omega | rfl | decide | simp only [fitsR, Bool.and_self]) [↓rules, rules, ↓rulesDp, rulesDq, lit_u64, Int.ofNat_inj, stops, rc_reevelaw24_OpdTaill0, q_int, q_bool, q_uint64, q_A4_uint64, q_S_uint64, q_geo_Geo, q_api_Errno, q_state_Reply, q_S_wset_Write, q_opd_Desc, q_wset_Write, q_reeveref11_Reply, q_S_reeveref22_Write, q_reeveref22_Desc, q_reeveref22_Write, hrf]
    rw [← hrf]
    refine rcond_dec (fun hlt => ?_) (fun hlt => ?_)
    · have hlt : i < rs.length := by omega
      obtain ⟨b1, o1, cs1, r1, h1, hb1, hel⟩ := rd_nths (f := U) hrs (by omega)
      have hb1n := hdom b1 (by rw [hb1]; simp)
      have e1 := load_elem1 (P := Try.prog) (t := T_uint64) ((kg'.same b1 hb1n).trans hb1) ta_uint64 (hel i hlt)
      rw [aLoad_eq, ta_uint64, ts_uint64] at e1
      have w1 : IntKind.i64.wrap (2 * (ws.length : Int)) = 2 * ws.length := wrap_i64 (by omega) (by omega)
      have w2 : IntKind.i64.wrap (8 + 2 * (ws.length : Int)) = 8 + 2 * ws.length := wrap_i64 (by omega) (by omega)
      obtain ⟨j, hj⟩ : ∃ j : Nat, j = 8 + 2 * ws.length + i := ⟨_, rfl⟩
      have w3 : IntKind.i64.wrap (8 + 2 * (ws.length : Int) + i) = j := by rw [hj]; exact (wrap_i64 (by omega) (by omega)).trans (by omega)
      by_cases c3 : (j : Int) < 1208
      · have c3n : j < 1208 := by omega
        have c4n : j + 1 ≤ 1208 := by omega
        have hset := set_map_U L j rs[i] (by omega)
        have hml : (L.map U).length = 1208 := by simpa using hL
        have hbB : b1 ≠ B := by omega
        generalize hLU : L.map U = LU at hset hml hLr
        subst h1
        simp (maxSteps := 1000000) (disch := first | assumption | omega | rfl | decide | simp only [fitsR, Bool.and_self]) [↓rules, rules, ↓rulesDp, rulesDq, lit_u64, Int.ofNat_inj, stops, q_int, q_bool, q_uint64, q_A4_uint64, q_S_uint64, q_geo_Geo, q_api_Errno, q_state_Reply, q_S_wset_Write, q_opd_Desc, q_wset_Write, q_reeveref11_Reply, q_S_reeveref22_Write, q_reeveref22_Desc, q_reeveref22_Write, x1, w1, w2, w3, c3, c3n, c4n, hlt, e1, hLr, hml, hset]
        refine ⟨by omega, rs.length - (i + 1), by omega, i + 1, rfl, by omega, L.set j rs[i], by simpa using hL, fun x hx => ?_, ?_⟩
        · rw [List.getElem?_set_ne (by omega)]; simpa [List.getD_eq_getElem?_getD] using hLe x hx
        · refine ⟨by rw [List.map_set], fun x hx => ?_, wrap_i64 (by omega) (by omega)⟩
          rw [if_neg hx]; exact hsame x hx
      · simp (maxSteps := 1000000) (disch := first | assumption | omega | rfl | decide | simp only [fitsR, Bool.and_self]) [↓rules, rules, ↓rulesDp, rulesDq, lit_u64, Int.ofNat_inj, stops, q_int, q_bool, q_uint64, q_A4_uint64, q_S_uint64, q_geo_Geo, q_api_Errno, q_state_Reply, q_S_wset_Write, q_opd_Desc, q_wset_Write, q_reeveref11_Reply, q_S_reeveref22_Write, q_reeveref22_Desc, q_reeveref22_Write, x1, w1, w2, w3, c3]
        refine ⟨rs.length - (i + 1), by omega, i + 1, rfl, by omega, L, hL, fun x hx => ?_, hLr, hsame, wrap_i64 (by omega) (by omega)⟩
        simpa [List.getD_eq_getElem?_getD] using hLe x hx
    · have hd' : getDe a b c L = (d, ws, true) := getDe_of hL hg hLe
      have rL : rdW g' (.slice (some ⟨B, 0, none⟩) 1208 1) L := rd_row hLr hL.symm
      simp (maxSteps := 1000000) (disch := first | assumption | omega | rfl | decide | simp only [fitsR, Bool.and_self]) [↓rules, rules, ↓rulesDp, rulesDq, lit_u64, Int.ofNat_inj, stops, q_int, q_bool, q_uint64, q_A4_uint64, q_S_uint64, q_geo_Geo, q_api_Errno, q_state_Reply, q_S_wset_Write, q_opd_Desc, q_wset_Write, q_reeveref11_Reply, q_S_reeveref22_Write, q_reeveref22_Desc, q_reeveref22_Write, x0]
      refine rcall_spec (opd_Get a b c _ L _ _ kg'.dom (by omega) rL) rfl (fun _ h => h.elim) rfl fun v g2 n2 ⟨⟨V, hvv, hV⟩, k2⟩ => ?_
      rw [hd'] at hV hvv
      subst hvv
      have l2 := k2.le
      have y1 := (k2.same (n + 1) (by omega)).trans x1
      obtain ⟨xa, xe, hVf⟩ := hV.rd.form
      have hVf : V = .slice xa ws.length xe := hVf
      subst hVf
      simp (maxSteps := 1000000) (disch := first | assumption | omega | rfl | decide | simp only [fitsR, Bool.and_self]) [↓rules, rules, ↓rulesDp, rulesDq, lit_u64, Int.ofNat_inj, stops, q_int, q_bool, q_uint64, q_A4_uint64, q_S_uint64, q_geo_Geo, q_api_Errno, q_state_Reply, q_S_wset_Write, q_opd_Desc, q_wset_Write, q_reeveref11_Reply, q_S_reeveref22_Write, q_reeveref22_Desc, q_reeveref22_Write]
      generalize hG2 : gset g2 _ _ = G2
      have k3 : Kept g2 n2 G2 (n2 + 1) := by rw [← hG2]; exact (Kept.refl k2.dom).new _
      have z1 : G2 (n + 1) = some (.row (cD d (.slice va ws.length ve)) true) := (k3.same (n + 1) (by omega)).trans y1
      have z2 : G2 n2 = some (.row (cD d (.slice xa ws.length xe)) true) := by rw [← hG2]; simp [gset]
      have hV3 : rdX G2 (.slice xa ws.length xe) ws := hV.rd.ext (k3.ext k2.dom)
      have hW3 : rdX G2 (.slice va ws.length ve) ws := (hv.ext (kg'.ext hdom)).ext ((k2.trans k3).ext kg'.dom)
      clear hG2
      refine ⟨by omega, ?_⟩
      refine dcall_spec k3.dom (descOf d _ ws _ _ k3.dom (by omega) hV3) (fun _ _ _ h => h.choose_spec.2.2) rfl (by first | trivial | simp (maxSteps := 1000000) (disch := first | assumption | omega | rfl | decide | simp only [fitsR, Bool.and_self]) [↓rules, rules, ↓rulesDp, rulesDq, lit_u64, Int.ofNat_inj]) fun vv g3 n3 ⟨V1, hvv, hV1, k4⟩ => ?_
      subst hvv
      have l4 := k4.le
      have z1' := (k4.same (n + 1) (by omega)).trans z1
      simp (maxSteps := 1000000) (disch := first | assumption | omega | rfl | decide | simp only [fitsR, Bool.and_self]) [↓rules, rules, ↓rulesDp, rulesDq, lit_u64, Int.ofNat_inj, stops, q_int, q_bool, q_uint64, q_A4_uint64, q_S_uint64, q_geo_Geo, q_api_Errno, q_state_Reply, q_S_wset_Write, q_opd_Desc, q_wset_Write, q_reeveref11_Reply, q_S_reeveref22_Write, q_reeveref22_Desc, q_reeveref22_Write, z1']
      refine dcall_spec k4.dom (descOf d _ ws _ _ k4.dom (by omega) (hW3.ext (k4.ext k3.dom))) (fun _ _ _ h => h.choose_spec.2.2) rfl (by first | trivial | simp (maxSteps := 1000000) (disch := first | assumption | omega | rfl | decide | simp only [fitsR, Bool.and_self]) [↓rules, rules, ↓rulesDp, rulesDq, lit_u64, Int.ofNat_inj]) fun vv g4 n4 ⟨V2, hvv, hV2, k5⟩ => ?_
      subst hvv
      have l5 := k5.le
      simp (maxSteps := 1000000) (disch := first | assumption | omega | rfl | decide | simp only [fitsR, Bool.and_self]) [↓rules, rules, ↓rulesDp, rulesDq, lit_u64, Int.ofNat_inj, stops, q_int, q_bool, q_uint64, q_A4_uint64, q_S_uint64, q_geo_Geo, q_api_Errno, q_state_Reply, q_S_wset_Write, q_opd_Desc, q_wset_Write, q_reeveref11_Reply, q_S_reeveref22_Write, q_reeveref22_Desc, q_reeveref22_Write]
      refine dcall_quiet k5.dom rfl (sameD_self d V1 V2 ws _ _ (by omega) (hV1.rd.ext (k5.ext k4.dom)) hV2.rd) (by first | trivial | simp (maxSteps := 1000000) (disch := first | assumption | omega | rfl | decide | simp only [fitsR, Bool.and_self]) [↓rules, rules, ↓rulesDp, rulesDq, lit_u64, Int.ofNat_inj]) ?_
      simp (maxSteps := 1000000) (disch := first | assumption | omega | rfl | decide | simp only [fitsR, Bool.and_self]) [↓rules, rules, ↓rulesDp, rulesDq, lit_u64, Int.ofNat_inj, stops, q_int, q_bool, q_uint64, q_A4_uint64, q_S_uint64, q_geo_Geo, q_api_Errno, q_state_Reply, q_S_wset_Write, q_opd_Desc, q_wset_Write, q_reeveref11_Reply, q_S_reeveref22_Write, q_reeveref22_Desc, q_reeveref22_Write]
      exact done_q hdom ((((kg'.trans k2).trans k3).trans k4).trans k5) rfl rfl
  · exact ⟨0, putL d ws, by simp, by simp, rfl, hLlen, fun _ _ => rfl, hrow, fun _ _ => rfl, by rfl⟩
end Go.Proofs.Ytafpgojoemcgnaa.F24

namespace Go.Proofs.Ytafpgojoemcgnaa.F24
open Go Go.Proofs Go.Proofs.YtafpgojoemcgnaaAbs
set_option maxHeartbeats 8000000
set_option maxRecDepth 100000
theorem PutR.rd {n : Nat} {g : AMem} {v : Value} {ok : Bool} {l : List (BitVec 64)} (h : PutR n g v ok l) (hl : ok = true → l.length = 1208) : rdW g v (if ok = true then l else []) := by
  rcases h with ⟨rfl, rfl⟩ | ⟨rfl, B, _, rfl, hr⟩
  · exact Rd.nil
  · rw [if_pos rfl]; exact rd_row hr (hl rfl).symm
theorem OpdBack (a b c : Int) (d : De) (W : Value) (ws : List Wr) (t : Int) (v : BitVec 64) (g : AMem) (n : Nat) (hdom : ∀ i, g i ≠ none → i < n) (hv : rdX g W ws) :
    FnC Try.prog f_reevelaw24_OpdBack [gv a b c, vD d W, .int .i64 t, U v] g n (fun _ => False) (.bool true) g n := by
  refine fnC_of_rwp t_reevelaw24_OpdBack hm rfl fun hdom => ?_
  obtain ⟨va, ve, rfl⟩ := hv.form
  simp (maxSteps := 1000000) (disch := first | assumption | omega | rfl | decide | simp only [fitsR, Bool.and_self]) [↓rules, rules, ↓rulesDp, rulesDq, lit_u64, Int.ofNat_inj, stops, rc_reevelaw24_OpdBack, q_int, q_bool, q_uint64, q_A4_uint64, q_S_uint64, q_geo_Geo, q_api_Errno, q_state_Reply, q_S_wset_Write, q_opd_Desc, q_wset_Write, q_reeveref11_Reply, q_S_reeveref22_Write, q_reeveref22_Desc, q_reeveref22_Write]
  refine rcall_quiet rfl (awakeD _ _) ?_
  have k0 : Kept g n (gset (gset g n (some (.row [.int .i64 a, .int .i64 b, .int .i64 c] true))) (n + 1) (some (.row (cD d (.slice va ws.length ve)) true))) (n + 1 + 1) := (by repeat first | exact Kept.refl hdom | refine Kept.new ?_ _ | refine Kept.drop ?_ (by omega) | refine Kept.put ?_ (by omega) (by omega) _ | refine Kept.skip ?_)
  by_cases c1 : 650 < (ws.length : Int)
  · simp (maxSteps := 1000000) (disch := first | assumption | omega | rfl | decide | simp only [fitsR, Bool.and_self]) [↓rules, rules, ↓rulesDp, rulesDq, lit_u64, Int.ofNat_inj, stops, q_int, q_bool, q_uint64, q_A4_uint64, q_S_uint64, q_geo_Geo, q_api_Errno, q_state_Reply, q_S_wset_Write, q_opd_Desc, q_wset_Write, q_reeveref11_Reply, q_S_reeveref22_Write, q_reeveref22_Desc, q_reeveref22_Write, c1]
    exact done_q hdom k0 rfl rfl
  have hl : ws.length < 4611686018427387904 := by omega
  simp (maxSteps := 1000000) (disch := first | assumption | omega | rfl | decide | simp only [fitsR, Bool.and_self]) [↓rules, rules, ↓rulesDp, rulesDq, lit_u64, Int.ofNat_inj, stops, q_int, q_bool, q_uint64, q_A4_uint64, q_S_uint64, q_geo_Geo, q_api_Errno, q_state_Reply, q_S_wset_Write, q_opd_Desc, q_wset_Write, q_reeveref11_Reply, q_S_reeveref22_Write, q_reeveref22_Desc, q_reeveref22_Write, c1]
  generalize hG : gset _ _ _ = G at k0 ⊢
  have p0 : G n = some (.row [.int .i64 a, .int .i64 b, .int .i64 c] true) := by rw [← hG]; simp [gset]
  have p1 : G (n + 1) = some (.row (cD d (.slice va ws.length ve)) true) := by rw [← hG]; simp [gset]
  clear hG
  refine rcall_quiet rfl (opd_Good a b c d _ ws _ _ hl (hv.ext (k0.ext hdom))) ?_
  cases hg : goodD a b c d ws
  · simp (maxSteps := 1000000) (disch := first | assumption | omega | rfl | decide | simp only [fitsR, Bool.and_self]) [↓rules, rules, ↓rulesDp, rulesDq, lit_u64, Int.ofNat_inj, stops, q_int, q_bool, q_uint64, q_A4_uint64, q_S_uint64, q_geo_Geo, q_api_Errno, q_state_Reply, q_S_wset_Write, q_opd_Desc, q_wset_Write, q_reeveref11_Reply, q_S_reeveref22_Write, q_reeveref22_Desc, q_reeveref22_Write]
    exact done_q hdom k0 rfl rfl
  simp (maxSteps := 1000000) (disch := first | assumption | omega | rfl | decide | simp only [fitsR, Bool.and_self]) [↓rules, rules, ↓rulesDp, rulesDq, lit_u64, Int.ofNat_inj, stops, q_int, q_bool, q_uint64, q_A4_uint64, q_S_uint64, q_geo_Geo, q_api_Errno, q_state_Reply, q_S_wset_Write, q_opd_Desc, q_wset_Write, q_reeveref11_Reply, q_S_reeveref22_Write, q_reeveref22_Desc, q_reeveref22_Write, p0, p1]
  refine rcall_spec (opd_Put a b c d _ ws _ _ k0.dom hl (hv.ext (k0.ext hdom))) rfl (fun _ h => h.elim) rfl fun pv g1 n1 ⟨r1, k1⟩ => ?_
  rcases r1 with ⟨h, _⟩ | ⟨_, B, hB, rfl, hrow⟩
  · rw [hg] at h; cases h
  have kk := k0.trans k1
  have q0 := (k1.same n (by omega)).trans p0
  have q1 := (k1.same (n + 1) (by omega)).trans p1
  have hBn := k1.dom B (by rw [hrow]; simp)
  have l1 := k1.le
  have hw6 := (goodW_len (goodD_W hg)).2
  have hLlen := putL_len (d := d) (ws := ws) hw6
  have rL : rdW g1 (.slice (some ⟨B, 0, none⟩) 1208 1) (putL d ws) := rd_row hrow hLlen.symm
  simp (maxSteps := 1000000) (disch := first | assumption | omega | rfl | decide | simp only [fitsR, Bool.and_self]) [↓rules, rules, ↓rulesDp, rulesDq, lit_u64, Int.ofNat_inj, stops, q_int, q_bool, q_uint64, q_A4_uint64, q_S_uint64, q_geo_Geo, q_api_Errno, q_state_Reply, q_S_wset_Write, q_opd_Desc, q_wset_Write, q_reeveref11_Reply, q_S_reeveref22_Write, q_reeveref22_Desc, q_reeveref22_Write, q0]
  refine rcall_spec (opd_Get a b c _ (putL d ws) _ _ kk.dom (by omega) rL) rfl (fun _ h => h.elim) rfl fun xv g2 n2 ⟨⟨V, hvv, hV⟩, k2⟩ => ?_
  rw [getDe_put hg] at hV hvv
  subst hvv
  have l2 := k2.le
  obtain ⟨xa, xe, hVf⟩ := hV.rd.form
  have hVf : V = .slice xa ws.length xe := hVf
  subst hVf
  simp (maxSteps := 1000000) (disch := first | assumption | omega | rfl | decide | simp only [fitsR, Bool.and_self]) [↓rules, rules, ↓rulesDp, rulesDq, lit_u64, Int.ofNat_inj, stops, q_int, q_bool, q_uint64, q_A4_uint64, q_S_uint64, q_geo_Geo, q_api_Errno, q_state_Reply, q_S_wset_Write, q_opd_Desc, q_wset_Write, q_reeveref11_Reply, q_S_reeveref22_Write, q_reeveref22_Desc, q_reeveref22_Write]
  generalize hG2 : gset g2 _ _ = G2
  have k3 : Kept g2 n2 G2 (n2 + 1) := by rw [← hG2]; exact (Kept.refl k2.dom).new _
  have k23 := k2.trans k3
  have z0 : G2 n = some (.row [.int .i64 a, .int .i64 b, .int .i64 c] true) := (k23.same n (by omega)).trans q0
  have z1 : G2 (n + 1) = some (.row (cD d (.slice va ws.length ve)) true) := (k23.same (n + 1) (by omega)).trans q1
  have z2 : G2 n2 = some (.row (cD d (.slice xa ws.length xe)) true) := by rw [← hG2]; simp [gset]
  have zB : G2 B = some (.row ((putL d ws).map U) true) := (k23.same B (by omega)).trans hrow
  have hV3 : rdX G2 (.slice xa ws.length xe) ws := hV.rd.ext (k3.ext k2.dom)
  have hW3 : rdX G2 (.slice va ws.length ve) ws := (hv.ext (kk.ext hdom)).ext (k23.ext kk.dom)
  have kA := kk.trans k23
  clear hG2
  refine ⟨by omega, ?_⟩
  refine dcall_spec k3.dom (descOf d _ ws _ _ k3.dom (by omega) hV3) (fun _ _ _ h => h.choose_spec.2.2) rfl (by first | trivial | simp (maxSteps := 1000000) (disch := first | assumption | omega | rfl | decide | simp only [fitsR, Bool.and_self]) [↓rules, rules, ↓rulesDp, rulesDq, lit_u64, Int.ofNat_inj]) fun vv g3 n3 ⟨V1, hvv, hV1, k4⟩ => ?_
  subst hvv
  have l4 := k4.le
  have z1' := (k4.same (n + 1) (by omega)).trans z1
  simp (maxSteps := 1000000) (disch := first | assumption | omega | rfl | decide | simp only [fitsR, Bool.and_self]) [↓rules, rules, ↓rulesDp, rulesDq, lit_u64, Int.ofNat_inj, stops, q_int, q_bool, q_uint64, q_A4_uint64, q_S_uint64, q_geo_Geo, q_api_Errno, q_state_Reply, q_S_wset_Write, q_opd_Desc, q_wset_Write, q_reeveref11_Reply, q_S_reeveref22_Write, q_reeveref22_Desc, q_reeveref22_Write, z1']
  refine dcall_spec k4.dom (descOf d _ ws _ _ k4.dom (by omega) (hW3.ext (k4.ext k3.dom))) (fun _ _ _ h => h.choose_spec.2.2) rfl (by first | trivial | simp (maxSteps := 1000000) (disch := first | assumption | omega | rfl | decide | simp only [fitsR, Bool.and_self]) [↓rules, rules, ↓rulesDp, rulesDq, lit_u64, Int.ofNat_inj]) fun vv g4 n4 ⟨V2, hvv, hV2, k5⟩ => ?_
  subst hvv
  have l5 := k5.le
  simp (maxSteps := 1000000) (disch := first | assumption | omega | rfl | decide | simp only [fitsR, Bool.and_self]) [↓rules, rules, ↓rulesDp, rulesDq, lit_u64, Int.ofNat_inj, stops, q_int, q_bool, q_uint64, q_A4_uint64, q_S_uint64, q_geo_Geo, q_api_Errno, q_state_Reply, q_S_wset_Write, q_opd_Desc, q_wset_Write, q_reeveref11_Reply, q_S_reeveref22_Write, q_reeveref22_Desc, q_reeveref22_Write]
  refine dcall_quiet k5.dom rfl (sameD_self d V1 V2 ws _ _ (by omega) (hV1.rd.ext (k5.ext k4.dom)) hV2.rd) (by first | trivial | simp (maxSteps := 1000000) (disch := first | assumption | omega | rfl | decide | simp only [fitsR, Bool.and_self]) [↓rules, rules, ↓rulesDp, rulesDq, lit_u64, Int.ofNat_inj]) ?_
  have k45 := k4.trans k5
  have kB := kA.trans k45
  have y0 := (k45.same n (by omega)).trans z0
  have y1 := (k45.same (n + 1) (by omega)).trans z1
  have yB := (k45.same B (by omega)).trans zB
  have yB0 : aLoadR (g4 B) (some false) (some 1) 0 = some (U (fstP d ws.length)) := by rw [yB]; rfl
  simp (maxSteps := 1000000) (disch := first | assumption | omega | rfl | decide | simp only [fitsR, Bool.and_self]) [↓rules, rules, ↓rulesDp, rulesDq, lit_u64, Int.ofNat_inj, stops, q_int, q_bool, q_uint64, q_A4_uint64, q_S_uint64, q_geo_Geo, q_api_Errno, q_state_Reply, q_S_wset_Write, q_opd_Desc, q_wset_Write, q_reeveref11_Reply, q_S_reeveref22_Write, q_reeveref22_Desc, q_reeveref22_Write, y1, yB0]
  refine dcall_quiet k5.dom rfl (opd_First d _ ws _ _ hl (hW3.ext (k45.ext k3.dom))) (by first | trivial | simp (maxSteps := 1000000) (disch := first | assumption | omega | rfl | decide | simp only [fitsR, Bool.and_self]) [↓rules, rules, ↓rulesDp, rulesDq, lit_u64, Int.ofNat_inj]) ?_
  by_cases t1 : t < 0
  · simp (maxSteps := 1000000) (disch := first | assumption | omega | rfl | decide | simp only [fitsR, Bool.and_self]) [↓rules, rules, ↓rulesDp, rulesDq, lit_u64, Int.ofNat_inj, stops, q_int, q_bool, q_uint64, q_A4_uint64, q_S_uint64, q_geo_Geo, q_api_Errno, q_state_Reply, q_S_wset_Write, q_opd_Desc, q_wset_Write, q_reeveref11_Reply, q_S_reeveref22_Write, q_reeveref22_Desc, q_reeveref22_Write, t1]
    exact done_q hdom kB rfl rfl
  by_cases t2 : 1208 ≤ t
  · simp (maxSteps := 1000000) (disch := first | assumption | omega | rfl | decide | simp only [fitsR, Bool.and_self]) [↓rules, rules, ↓rulesDp, rulesDq, lit_u64, Int.ofNat_inj, stops, q_int, q_bool, q_uint64, q_A4_uint64, q_S_uint64, q_geo_Geo, q_api_Errno, q_state_Reply, q_S_wset_Write, q_opd_Desc, q_wset_Write, q_reeveref11_Reply, q_S_reeveref22_Write, q_reeveref22_Desc, q_reeveref22_Write, t1, t2]
    exact done_q hdom kB rfl rfl
  obtain ⟨j, rfl⟩ := Int.eq_ofNat_of_zero_le (show 0 ≤ t by omega)
  have j1 : (j : Int) < 1208 := by omega
  have j2 : j + 1 ≤ 1208 := by omega
  have j3 : j < 1208 := by omega
  have j4 : ¬ (1208 : Int) ≤ (j : Int) := by omega
  have hml : ((putL d ws).map U).length = 1208 := by rw [List.length_map]; exact hLlen
  simp (maxSteps := 1000000) (disch := first | assumption | omega | rfl | decide | simp only [fitsR, Bool.and_self]) [↓rules, rules, ↓rulesDp, rulesDq, lit_u64, Int.ofNat_inj, stops, q_int, q_bool, q_uint64, q_A4_uint64, q_S_uint64, q_geo_Geo, q_api_Errno, q_state_Reply, q_S_wset_Write, q_opd_Desc, q_wset_Write, q_reeveref11_Reply, q_S_reeveref22_Write, q_reeveref22_Desc, q_reeveref22_Write, t1, j1, j2, j3, j4, yB, hml, hLlen]
  refine ⟨by omega, ?_⟩
  rw [set_map_U _ _ _ (by omega)]
  generalize hH : gset g4 _ _ = H
  have kH : Kept g n H n4 := by rw [← hH]; exact kB.put (by omega) (by omega) _
  have h0 : H n = some (.row [.int .i64 a, .int .i64 b, .int .i64 c] true) := by rw [← hH, gset_ne _ _ (by omega)]; exact y0
  have hBr : H B = some (.row (((putL d ws).set j v).map U) true) := by rw [← hH, gset_same]
  have hL2 : ((putL d ws).set j v).length = 1208 := by rw [List.length_set]; exact hLlen
  clear hH
  generalize (putL d ws).set j v = L2 at hBr hL2 ⊢
  have rL2 : rdW H (.slice (some ⟨B, 0, none⟩) 1208 1) L2 := rd_row hBr hL2.symm
  simp (maxSteps := 1000000) (disch := first | assumption | omega | rfl | decide | simp only [fitsR, Bool.and_self]) [↓rules, rules, ↓rulesDp, rulesDq, lit_u64, Int.ofNat_inj, stops, q_int, q_bool, q_uint64, q_A4_uint64, q_S_uint64, q_geo_Geo, q_api_Errno, q_state_Reply, q_S_wset_Write, q_opd_Desc, q_wset_Write, q_reeveref11_Reply, q_S_reeveref22_Write, q_reeveref22_Desc, q_reeveref22_Write, y0]
  refine rcall_spec (opd_Get a b c _ L2 _ _ kH.dom (by omega) rL2) rfl (fun _ h => h.elim) rfl fun xv g5 n5 ⟨⟨V5, hvv, hV5⟩, k6⟩ => ?_
  have hyl := getDe_wlen (a := a) (b := b) (c := c) (l := L2)
  have hyg : (getDe a b c L2).2.2 = true → goodD a b c (getDe a b c L2).1 (getDe a b c L2).2.1 = true := getDe_good
  generalize getDe a b c L2 = y at hvv hV5 hyl hyg
  obtain ⟨e, wy, fy⟩ := y
  simp only at hvv hV5 hyl hyg
  subst hvv
  have l6 := k6.le
  obtain ⟨xa5, xe5, hVf⟩ := hV5.rd.form
  subst hVf
  have y5 := (k6.same n (by omega)).trans h0
  have ne5 : n ≠ n5 := by omega
  simp (maxSteps := 1000000) (disch := first | assumption | omega | rfl | decide | simp only [fitsR, Bool.and_self]) [↓rules, rules, ↓rulesDp, rulesDq, lit_u64, Int.ofNat_inj, stops, q_int, q_bool, q_uint64, q_A4_uint64, q_S_uint64, q_geo_Geo, q_api_Errno, q_state_Reply, q_S_wset_Write, q_opd_Desc, q_wset_Write, q_reeveref11_Reply, q_S_reeveref22_Write, q_reeveref22_Desc, q_reeveref22_Write, y5, ne5]
  generalize hG5 : gset g5 _ _ = G5
  have k7 : Kept g5 n5 G5 (n5 + 1) := by rw [← hG5]; exact (Kept.refl k6.dom).new _
  have k67 := k6.trans k7
  have z0 : G5 n = some (.row [.int .i64 a, .int .i64 b, .int .i64 c] true) := (k67.same n (by omega)).trans h0
  have z2 : G5 n5 = some (.row (cD e (.slice xa5 wy.length xe5)) true) := by rw [← hG5]; simp [gset]
  have rY : rdX G5 (.slice xa5 wy.length xe5) wy := hV5.rd.ext (k7.ext k6.dom)
  clear hG5
  refine ⟨by omega, ?_⟩
  have kC := kH.trans k67
  refine dcall_spec k7.dom (opd_Put a b c e _ wy _ _ k7.dom (by omega) rY) (fun _ _ _ h => h.2) rfl (by first | trivial | simp (maxSteps := 1000000) (disch := first | assumption | omega | rfl | decide | simp only [fitsR, Bool.and_self]) [↓rules, rules, ↓rulesDp, rulesDq, lit_u64, Int.ofNat_inj]) fun pv6 g6 n6 ⟨r6, k8⟩ => ?_
  have l8 := k8.le
  have hq := r6.rd (fun h => putL_len hyl)
  have hql : (if goodD a b c e wy = true then putL e wy else []).length ≤ 1208 := by
    split
    · rw [putL_len hyl]; exact Nat.le_refl _
    · simp
  have hq3 : goodD a b c e wy = true → getDe a b c (if goodD a b c e wy = true then putL e wy else []) = (e, wy, true) := fun h => by rw [if_pos h]; exact getDe_put h
  generalize (if goodD a b c e wy = true then putL e wy else []) = L3 at hq hql hq3
  refine dcall_spec k8.dom (opd_Get a b c _ L3 _ _ k8.dom (by omega) hq) (fun _ _ _ h => h.2) rfl (by first | trivial | simp (maxSteps := 1000000) (disch := first | assumption | omega | rfl | decide | simp only [fitsR, Bool.and_self]) [↓rules, rules, ↓rulesDp, rulesDq, lit_u64, Int.ofNat_inj]) fun xv7 g7 n7 ⟨⟨V7, hvv, hV7⟩, k9⟩ => ?_
  have hzl := getDe_wlen (a := a) (b := b) (c := c) (l := L3)
  generalize getDe a b c L3 = y3 at hvv hV7 hzl hq3
  obtain ⟨e3, wy3, fy3⟩ := y3
  simp only at hvv hV7 hzl hq3
  subst hvv
  have l9 := k9.le
  obtain ⟨xa7, xe7, hVf⟩ := hV7.rd.form
  subst hVf
  simp (maxSteps := 1000000) (disch := first | assumption | omega | rfl | decide | simp only [fitsR, Bool.and_self]) [↓rules, rules, ↓rulesDp, rulesDq, lit_u64, Int.ofNat_inj, stops, q_int, q_bool, q_uint64, q_A4_uint64, q_S_uint64, q_geo_Geo, q_api_Errno, q_state_Reply, q_S_wset_Write, q_opd_Desc, q_wset_Write, q_reeveref11_Reply, q_S_reeveref22_Write, q_reeveref22_Desc, q_reeveref22_Write]
  refine ⟨by omega, ?_⟩
  generalize hG7 : gset _ _ _ = G7
  have k10 : Kept g7 n7 G7 (n7 + 1) := by rw [← hG7]; exact ((Kept.refl k9.dom).new _).put (by omega) (by omega) _
  have kD := ((kC.trans k8).trans k9).trans k10
  have k8910 := (k8.trans k9).trans k10
  have u0 := (k8910.same n (by omega)).trans z0
  have u5 := (k8910.same n5 (by omega)).trans z2
  have u7 : G7 n7 = some (.row (cD e3 (.slice xa7 wy3.length xe7)) true) := by rw [← hG7]; simp [gset]
  have rZ : rdX G7 (.slice xa7 wy3.length xe7) wy3 := hV7.rd.ext (k10.ext k9.dom)
  have rY7 : rdX G7 (.slice xa5 wy.length xe5) wy := rY.ext (k8910.ext k7.dom)
  clear hG7
  cases fy
  · simp (maxSteps := 1000000) (disch := first | assumption | omega | rfl | decide | simp only [fitsR, Bool.and_self]) [↓rules, rules, ↓rulesDp, rulesDq, lit_u64, Int.ofNat_inj, stops, q_int, q_bool, q_uint64, q_A4_uint64, q_S_uint64, q_geo_Geo, q_api_Errno, q_state_Reply, q_S_wset_Write, q_opd_Desc, q_wset_Write, q_reeveref11_Reply, q_S_reeveref22_Write, q_reeveref22_Desc, q_reeveref22_Write]
    exact done_q hdom kD rfl rfl
  have hgy := hyg rfl
  have h3 := hq3 hgy
  simp only [Prod.mk.injEq] at h3
  obtain ⟨rfl, rfl, rfl⟩ := h3
  simp (maxSteps := 1000000) (disch := first | assumption | omega | rfl | decide | simp only [fitsR, Bool.and_self]) [↓rules, rules, ↓rulesDp, rulesDq, lit_u64, Int.ofNat_inj, stops, q_int, q_bool, q_uint64, q_A4_uint64, q_S_uint64, q_geo_Geo, q_api_Errno, q_state_Reply, q_S_wset_Write, q_opd_Desc, q_wset_Write, q_reeveref11_Reply, q_S_reeveref22_Write, q_reeveref22_Desc, q_reeveref22_Write, u0, u5]
  refine dcall_quiet k10.dom rfl (opd_Good a b c e3 _ wy3 _ _ (by omega) rY7) (by first | trivial | simp (maxSteps := 1000000) (disch := first | assumption | omega | rfl | decide | simp only [fitsR, Bool.and_self]) [↓rules, rules, ↓rulesDp, rulesDq, lit_u64, Int.ofNat_inj]) ?_
  rw [hgy]
  simp (maxSteps := 1000000) (disch := first | assumption | omega | rfl | decide | simp only [fitsR, Bool.and_self]) [↓rules, rules, ↓rulesDp, rulesDq, lit_u64, Int.ofNat_inj, stops, q_int, q_bool, q_uint64, q_A4_uint64, q_S_uint64, q_geo_Geo, q_api_Errno, q_state_Reply, q_S_wset_Write, q_opd_Desc, q_wset_Write, q_reeveref11_Reply, q_S_reeveref22_Write, q_reeveref22_Desc, q_reeveref22_Write, u7]
  refine dcall_spec k10.dom (descOf e3 _ wy3 _ _ k10.dom (by omega) rZ) (fun _ _ _ h => h.choose_spec.2.2) rfl (by first | trivial | simp (maxSteps := 1000000) (disch := first | assumption | omega | rfl | decide | simp only [fitsR, Bool.and_self]) [↓rules, rules, ↓rulesDp, rulesDq, lit_u64, Int.ofNat_inj]) fun vv g8 n8 ⟨V8, hvv, hV8, k11⟩ => ?_
  subst hvv
  have l11 := k11.le
  have u5' := (k11.same n5 (by omega)).trans u5
  simp (maxSteps := 1000000) (disch := first | assumption | omega | rfl | decide | simp only [fitsR, Bool.and_self]) [↓rules, rules, ↓rulesDp, rulesDq, lit_u64, Int.ofNat_inj, stops, q_int, q_bool, q_uint64, q_A4_uint64, q_S_uint64, q_geo_Geo, q_api_Errno, q_state_Reply, q_S_wset_Write, q_opd_Desc, q_wset_Write, q_reeveref11_Reply, q_S_reeveref22_Write, q_reeveref22_Desc, q_reeveref22_Write, u5']
  refine dcall_spec k11.dom (descOf e3 _ wy3 _ _ k11.dom (by omega) (rY7.ext (k11.ext k10.dom))) (fun _ _ _ h => h.choose_spec.2.2) rfl (by first | trivial | simp (maxSteps := 1000000) (disch := first | assumption | omega | rfl | decide | simp only [fitsR, Bool.and_self]) [↓rules, rules, ↓rulesDp, rulesDq, lit_u64, Int.ofNat_inj]) fun vv g9 n9 ⟨V9, hvv, hV9, k12⟩ => ?_
  subst hvv
  have l12 := k12.le
  simp (maxSteps := 1000000) (disch := first | assumption | omega | rfl | decide | simp only [fitsR, Bool.and_self]) [↓rules, rules, ↓rulesDp, rulesDq, lit_u64, Int.ofNat_inj, stops, q_int, q_bool, q_uint64, q_A4_uint64, q_S_uint64, q_geo_Geo, q_api_Errno, q_state_Reply, q_S_wset_Write, q_opd_Desc, q_wset_Write, q_reeveref11_Reply, q_S_reeveref22_Write, q_reeveref22_Desc, q_reeveref22_Write]
  refine dcall_quiet k12.dom rfl (sameD_self e3 V8 V9 wy3 _ _ (by omega) (hV8.rd.ext (k12.ext k11.dom)) hV9.rd) (by first | trivial | simp (maxSteps := 1000000) (disch := first | assumption | omega | rfl | decide | simp only [fitsR, Bool.and_self]) [↓rules, rules, ↓rulesDp, rulesDq, lit_u64, Int.ofNat_inj]) ?_
  simp (maxSteps := 1000000) (disch := first | assumption | omega | rfl | decide | simp only [fitsR, Bool.and_self]) [↓rules, rules, ↓rulesDp, rulesDq, lit_u64, Int.ofNat_inj, stops, q_int, q_bool, q_uint64, q_A4_uint64, q_S_uint64, q_geo_Geo, q_api_Errno, q_state_Reply, q_S_wset_Write, q_opd_Desc, q_wset_Write, q_reeveref11_Reply, q_S_reeveref22_Write, q_reeveref22_Desc, q_reeveref22_Write]
  exact done_q hdom ((kD.trans k11).trans k12) rfl rfl
end Go.Proofs.Ytafpgojoemcgnaa.F24

namespace Go.Proofs.Ytafpgojoemcgnaa.F24
open Go Go.Proofs Go.Proofs.YtafpgojoemcgnaaAbs
set_option maxHeartbeats 8000000
set_option maxRecDepth 100000
theorem OpdSays (a b c : Int) (d : De) (W : Value) (ws : List Wr) (t : Int) (v : BitVec 64) (g : AMem) (n : Nat) (hdom : ∀ i, g i ≠ none → i < n) (hv : rdX g W ws)
    (hs1 : -9223372036854775808 ≤ d.s) (hs2 : d.s ≤ 9223372036854775807) (he1 : -9223372036854775808 ≤ d.e) (he2 : d.e ≤ 9223372036854775807) :
    FnC Try.prog f_reevelaw24_OpdSays [gv a b c, vD d W, .int .i64 t, U v] g n (fun _ => False) (.bool true) g n := by
  refine fnC_of_rwp t_reevelaw24_OpdSays hm rfl fun hdom => ?_
  obtain ⟨va, ve, rfl⟩ := hv.form
  simp (maxSteps := 1000000) (disch := first | assumption | omega | rfl | decide | simp only [fitsR, Bool.and_self]) [↓rules, rules, ↓rulesDp, rulesDq, lit_u64, Int.ofNat_inj, stops, rc_reevelaw24_OpdSays, q_int, q_bool, q_uint64, q_A4_uint64, q_S_uint64, q_geo_Geo, q_api_Errno, q_state_Reply, q_S_wset_Write, q_opd_Desc, q_wset_Write, q_reeveref11_Reply, q_S_reeveref22_Write, q_reeveref22_Desc, q_reeveref1_Geo, q_reeveref22_Write]
  refine rcall_quiet rfl (awakeD _ _) ?_
  have k0 : Kept g n (gset (gset g n (some (.row [.int .i64 a, .int .i64 b, .int .i64 c] true))) (n + 1) (some (.row (cD d (.slice va ws.length ve)) true))) (n + 1 + 1) := (by repeat first | exact Kept.refl hdom | refine Kept.new ?_ _ | refine Kept.drop ?_ (by omega) | refine Kept.put ?_ (by omega) (by omega) _ | refine Kept.skip ?_)
  by_cases c1 : 650 < (ws.length : Int)
  · simp (maxSteps := 1000000) (disch := first | assumption | omega | rfl | decide | simp only [fitsR, Bool.and_self]) [↓rules, rules, ↓rulesDp, rulesDq, lit_u64, Int.ofNat_inj, stops, q_int, q_bool, q_uint64, q_A4_uint64, q_S_uint64, q_geo_Geo, q_api_Errno, q_state_Reply, q_S_wset_Write, q_opd_Desc, q_wset_Write, q_reeveref11_Reply, q_S_reeveref22_Write, q_reeveref22_Desc, q_reeveref1_Geo, q_reeveref22_Write, c1]
    exact done_q hdom k0 rfl rfl
  have hl : ws.length < 4611686018427387904 := by omega
  simp (maxSteps := 1000000) (disch := first | assumption | omega | rfl | decide | simp only [fitsR, Bool.and_self]) [↓rules, rules, ↓rulesDp, rulesDq, lit_u64, Int.ofNat_inj, stops, q_int, q_bool, q_uint64, q_A4_uint64, q_S_uint64, q_geo_Geo, q_api_Errno, q_state_Reply, q_S_wset_Write, q_opd_Desc, q_wset_Write, q_reeveref11_Reply, q_S_reeveref22_Write, q_reeveref22_Desc, q_reeveref1_Geo, q_reeveref22_Write, c1]
  generalize hG : gset _ _ _ = G at k0 ⊢
  have p0 : G n = some (.row [.int .i64 a, .int .i64 b, .int .i64 c] true) := by rw [← hG]; simp [gset]
  have p1 : G (n + 1) = some (.row (cD d (.slice va ws.length ve)) true) := by rw [← hG]; simp [gset]
  clear hG
  refine dcall_spec k0.dom (opd_Put a b c d _ ws _ _ k0.dom hl (hv.ext (k0.ext hdom))) (fun _ _ _ h => h.2) rfl (by first | trivial | simp (maxSteps := 1000000) (disch := first | assumption | omega | rfl | decide | simp only [fitsR, Bool.and_self]) [↓rules, rules, ↓rulesDp, rulesDq, lit_u64, Int.ofNat_inj]) fun pv g1 n1 ⟨r1, k1⟩ => ?_
  have l1 := k1.le
  have q0 := (k1.same n (by omega)).trans p0
  have q1 := (k1.same (n + 1) (by omega)).trans p1
  simp (maxSteps := 1000000) (disch := first | assumption | omega | rfl | decide | simp only [fitsR, Bool.and_self]) [↓rules, rules, ↓rulesDp, rulesDq, lit_u64, Int.ofNat_inj, stops, q_int, q_bool, q_uint64, q_A4_uint64, q_S_uint64, q_geo_Geo, q_api_Errno, q_state_Reply, q_S_wset_Write, q_opd_Desc, q_wset_Write, q_reeveref11_Reply, q_S_reeveref22_Write, q_reeveref22_Desc, q_reeveref1_Geo, q_reeveref22_Write, q0]
  refine dcall_quiet k1.dom rfl (geoOf a b c _ _) (by first | trivial | simp (maxSteps := 1000000) (disch := first | assumption | omega | rfl | decide | simp only [fitsR, Bool.and_self]) [↓rules, rules, ↓rulesDp, rulesDq, lit_u64, Int.ofNat_inj]) ?_
  simp (maxSteps := 1000000) (disch := first | assumption | omega | rfl | decide | simp only [fitsR, Bool.and_self]) [↓rules, rules, ↓rulesDp, rulesDq, lit_u64, Int.ofNat_inj, stops, q_int, q_bool, q_uint64, q_A4_uint64, q_S_uint64, q_geo_Geo, q_api_Errno, q_state_Reply, q_S_wset_Write, q_opd_Desc, q_wset_Write, q_reeveref11_Reply, q_S_reeveref22_Write, q_reeveref22_Desc, q_reeveref1_Geo, q_reeveref22_Write, q1]
  have kk := k0.trans k1
  refine dcall_spec k1.dom (descOf d _ ws _ _ k1.dom (by omega) (hv.ext (kk.ext hdom))) (fun _ _ _ h => h.choose_spec.2.2) rfl (by first | trivial | simp (maxSteps := 1000000) (disch := first | assumption | omega | rfl | decide | simp only [fitsR, Bool.and_self]) [↓rules, rules, ↓rulesDp, rulesDq, lit_u64, Int.ofNat_inj]) fun vv g2 n2 ⟨V2, hvv, hV2, k2⟩ => ?_
  subst hvv
  have l2 := k2.le
  simp (maxSteps := 1000000) (disch := first | assumption | omega | rfl | decide | simp only [fitsR, Bool.and_self]) [↓rules, rules, ↓rulesDp, rulesDq, lit_u64, Int.ofNat_inj, stops, q_int, q_bool, q_uint64, q_A4_uint64, q_S_uint64, q_geo_Geo, q_api_Errno, q_state_Reply, q_S_wset_Write, q_opd_Desc, q_wset_Write, q_reeveref11_Reply, q_S_reeveref22_Write, q_reeveref22_Desc, q_reeveref1_Geo, q_reeveref22_Write]
  refine dcall_spec k2.dom (ref_PutDesc a b c d _ ws _ _ k2.dom hl hV2.rd) (fun _ _ _ h => h.2) rfl (by first | trivial | simp (maxSteps := 1000000) (disch := first | assumption | omega | rfl | decide | simp only [fitsR, Bool.and_self]) [↓rules, rules, ↓rulesDp, rulesDq, lit_u64, Int.ofNat_inj]) fun pw g3 n3 ⟨r3, k3⟩ => ?_
  have l3 := k3.le
  have k23 := k2.trans k3
  have k3' := kk.trans k23
  have s0 := (k23.same n (by omega)).trans q0
  have s1 := (k23.same (n + 1) (by omega)).trans q1
  have hw6 : goodD a b c d ws = true → ws.length ≤ 600 := fun h => (goodW_len (goodD_W h)).2
  have rl := (r1.rd (fun h => putL_len (hw6 h))).ext (k23.ext k1.dom)
  have rw' := r3.rd (fun h => putL_len (hw6 h))
  have hlen : (if goodD a b c d ws = true then putL d ws else []).length < 4611686018427387904 := by
    split
    · rename_i h; rw [putL_len (hw6 h)]; decide
    · simp
  simp (maxSteps := 1000000) (disch := first | assumption | omega | rfl | decide | simp only [fitsR, Bool.and_self]) [↓rules, rules, ↓rulesDp, rulesDq, lit_u64, Int.ofNat_inj, stops, q_int, q_bool, q_uint64, q_A4_uint64, q_S_uint64, q_geo_Geo, q_api_Errno, q_state_Reply, q_S_wset_Write, q_opd_Desc, q_wset_Write, q_reeveref11_Reply, q_S_reeveref22_Write, q_reeveref22_Desc, q_reeveref1_Geo, q_reeveref22_Write]
  refine rcall_quiet rfl (words pv pw _ _ _ _ hlen hlen rl rw') ?_
  rw [decide_eq_true rfl]
  simp (maxSteps := 1000000) (disch := first | assumption | omega | rfl | decide | simp only [fitsR, Bool.and_self]) [↓rules, rules, ↓rulesDp, rulesDq, lit_u64, Int.ofNat_inj, stops, q_int, q_bool, q_uint64, q_A4_uint64, q_S_uint64, q_geo_Geo, q_api_Errno, q_state_Reply, q_S_wset_Write, q_opd_Desc, q_wset_Write, q_reeveref11_Reply, q_S_reeveref22_Write, q_reeveref22_Desc, q_reeveref1_Geo, q_reeveref22_Write, s0, s1]
  refine rcall_quiet rfl (opd_Good a b c d _ ws _ _ hl (hv.ext (k3'.ext hdom))) ?_
  simp (maxSteps := 1000000) (disch := first | assumption | omega | rfl | decide | simp only [fitsR, Bool.and_self]) [↓rules, rules, ↓rulesDp, rulesDq, lit_u64, Int.ofNat_inj, stops, q_int, q_bool, q_uint64, q_A4_uint64, q_S_uint64, q_geo_Geo, q_api_Errno, q_state_Reply, q_S_wset_Write, q_opd_Desc, q_wset_Write, q_reeveref11_Reply, q_S_reeveref22_Write, q_reeveref22_Desc, q_reeveref1_Geo, q_reeveref22_Write, s0, s1]
  refine rcall_quiet rfl (geoOf a b c _ _) ?_
  simp (maxSteps := 1000000) (disch := first | assumption | omega | rfl | decide | simp only [fitsR, Bool.and_self]) [↓rules, rules, ↓rulesDp, rulesDq, lit_u64, Int.ofNat_inj, stops, q_int, q_bool, q_uint64, q_A4_uint64, q_S_uint64, q_geo_Geo, q_api_Errno, q_state_Reply, q_S_wset_Write, q_opd_Desc, q_wset_Write, q_reeveref11_Reply, q_S_reeveref22_Write, q_reeveref22_Desc, q_reeveref1_Geo, q_reeveref22_Write, s0, s1]
  refine rcall_spec (descOf d _ ws _ _ k3'.dom (by omega) (hv.ext (k3'.ext hdom))) rfl (fun _ h => h.elim) rfl fun vv g4 n4 ⟨V4, hvv, hV4, k4⟩ => ?_
  subst hvv
  have l4 := k4.le
  simp (maxSteps := 1000000) (disch := first | assumption | omega | rfl | decide | simp only [fitsR, Bool.and_self]) [↓rules, rules, ↓rulesDp, rulesDq, lit_u64, Int.ofNat_inj, stops, q_int, q_bool, q_uint64, q_A4_uint64, q_S_uint64, q_geo_Geo, q_api_Errno, q_state_Reply, q_S_wset_Write, q_opd_Desc, q_wset_Write, q_reeveref11_Reply, q_S_reeveref22_Write, q_reeveref22_Desc, q_reeveref1_Geo, q_reeveref22_Write]
  refine rcall_quiet rfl (GoodDesc a b c d _ ws _ _ hl hV4.rd) ?_
  have s1' := (k4.same (n + 1) (by omega)).trans s1
  have k4' := k3'.trans k4
  simp (maxSteps := 1000000) (disch := first | assumption | omega | rfl | decide | simp only [fitsR, Bool.and_self]) [↓rules, rules, ↓rulesDp, rulesDq, lit_u64, Int.ofNat_inj, stops, q_int, q_bool, q_uint64, q_A4_uint64, q_S_uint64, q_geo_Geo, q_api_Errno, q_state_Reply, q_S_wset_Write, q_opd_Desc, q_wset_Write, q_reeveref11_Reply, q_S_reeveref22_Write, q_reeveref22_Desc, q_reeveref1_Geo, q_reeveref22_Write, s1', bin_neq_bool tu_bool]
  refine rcall_quiet rfl (opd_First d _ ws _ _ hl (hv.ext (k4'.ext hdom))) ?_
  simp (maxSteps := 1000000) (disch := first | assumption | omega | rfl | decide | simp only [fitsR, Bool.and_self]) [↓rules, rules, ↓rulesDp, rulesDq, lit_u64, Int.ofNat_inj, stops, q_int, q_bool, q_uint64, q_A4_uint64, q_S_uint64, q_geo_Geo, q_api_Errno, q_state_Reply, q_S_wset_Write, q_opd_Desc, q_wset_Write, q_reeveref11_Reply, q_S_reeveref22_Write, q_reeveref22_Desc, q_reeveref1_Geo, q_reeveref22_Write, s1']
  refine rcall_spec (descOf d _ ws _ _ k4'.dom (by omega) (hv.ext (k4'.ext hdom))) rfl (fun _ h => h.elim) rfl fun vv g5 n5 ⟨V5, hvv, hV5, k5⟩ => ?_
  subst hvv
  have l5 := k5.le
  simp (maxSteps := 1000000) (disch := first | assumption | omega | rfl | decide | simp only [fitsR, Bool.and_self]) [↓rules, rules, ↓rulesDp, rulesDq, lit_u64, Int.ofNat_inj, stops, q_int, q_bool, q_uint64, q_A4_uint64, q_S_uint64, q_geo_Geo, q_api_Errno, q_state_Reply, q_S_wset_Write, q_opd_Desc, q_wset_Write, q_reeveref11_Reply, q_S_reeveref22_Write, q_reeveref22_Desc, q_reeveref1_Geo, q_reeveref22_Write]
  refine rcall_quiet rfl (ref_First d _ ws _ _ hl hV5.rd) ?_
  rw [fst_eq hs1 hs2 he1 he2]
  have k5' := k4'.trans k5
  have k2345 := (k23.trans k4).trans k5
  by_cases t1 : t < 0
  · simp (maxSteps := 1000000) (disch := first | assumption | omega | rfl | decide | simp only [fitsR, Bool.and_self]) [↓rules, rules, ↓rulesDp, rulesDq, lit_u64, Int.ofNat_inj, stops, q_int, q_bool, q_uint64, q_A4_uint64, q_S_uint64, q_geo_Geo, q_api_Errno, q_state_Reply, q_S_wset_Write, q_opd_Desc, q_wset_Write, q_reeveref11_Reply, q_S_reeveref22_Write, q_reeveref22_Desc, q_reeveref1_Geo, q_reeveref22_Write, t1]
    exact done_q hdom k5' rfl rfl
  rcases r1 with ⟨_, rfl⟩ | ⟨hg, B, hB, rfl, hrow⟩
  · have t0 : 0 ≤ t := by omega
    simp (maxSteps := 1000000) (disch := first | assumption | omega | rfl | decide | simp only [fitsR, Bool.and_self]) [↓rules, rules, ↓rulesDp, rulesDq, lit_u64, Int.ofNat_inj, stops, q_int, q_bool, q_uint64, q_A4_uint64, q_S_uint64, q_geo_Geo, q_api_Errno, q_state_Reply, q_S_wset_Write, q_opd_Desc, q_wset_Write, q_reeveref11_Reply, q_S_reeveref22_Write, q_reeveref22_Desc, q_reeveref1_Geo, q_reeveref22_Write, t1, t0]
    exact done_q hdom k5' rfl rfl
  have hBn := k1.dom B (by rw [hrow]; simp)
  have hLlen := putL_len (d := d) (ws := ws) (hw6 hg)
  by_cases t2 : 1208 ≤ t
  · simp (maxSteps := 1000000) (disch := first | assumption | omega | rfl | decide | simp only [fitsR, Bool.and_self]) [↓rules, rules, ↓rulesDp, rulesDq, lit_u64, Int.ofNat_inj, stops, q_int, q_bool, q_uint64, q_A4_uint64, q_S_uint64, q_geo_Geo, q_api_Errno, q_state_Reply, q_S_wset_Write, q_opd_Desc, q_wset_Write, q_reeveref11_Reply, q_S_reeveref22_Write, q_reeveref22_Desc, q_reeveref1_Geo, q_reeveref22_Write, t1, t2]
    exact done_q hdom k5' rfl rfl
  obtain ⟨j, rfl⟩ := Int.eq_ofNat_of_zero_le (show 0 ≤ t by omega)
  have j1 : (j : Int) < 1208 := by omega
  have j2 : j + 1 ≤ 1208 := by omega
  have j3 : j < 1208 := by omega
  have j4 : ¬ (1208 : Int) ≤ (j : Int) := by omega
  have hml : ((putL d ws).map U).length = 1208 := by rw [List.length_map]; exact hLlen
  have yB := (k2345.same B (by omega)).trans hrow
  have y0 := ((k2345.same n (by omega)).trans q0)
  simp (maxSteps := 1000000) (disch := first | assumption | omega | rfl | decide | simp only [fitsR, Bool.and_self]) [↓rules, rules, ↓rulesDp, rulesDq, lit_u64, Int.ofNat_inj, stops, q_int, q_bool, q_uint64, q_A4_uint64, q_S_uint64, q_geo_Geo, q_api_Errno, q_state_Reply, q_S_wset_Write, q_opd_Desc, q_wset_Write, q_reeveref11_Reply, q_S_reeveref22_Write, q_reeveref22_Desc, q_reeveref1_Geo, q_reeveref22_Write, t1, j1, j2, j3, j4, yB, hml, hLlen, y0]
  refine ⟨by omega, ?_⟩
  rw [set_map_U _ _ _ (by omega)]
  generalize hH : gset g5 _ _ = H
  have kH : Kept g n H n5 := by rw [← hH]; exact k5'.put (by omega) (by omega) _
  have h0 : H n = some (.row [.int .i64 a, .int .i64 b, .int .i64 c] true) := by rw [← hH, gset_ne _ _ (by omega)]; exact y0
  have hBr : H B = some (.row (((putL d ws).set j v).map U) true) := by rw [← hH, gset_same]
  have hL2 : ((putL d ws).set j v).length = 1208 := by rw [List.length_set]; exact hLlen
  clear hH
  generalize (putL d ws).set j v = L2 at hBr hL2 ⊢
  have rL2 : rdW H (.slice (some ⟨B, 0, none⟩) 1208 1) L2 := rd_row hBr hL2.symm
  refine rcall_spec (opd_Get a b c _ L2 _ _ kH.dom (by omega) rL2) rfl (fun _ h => h.elim) rfl fun xv g6 n6 ⟨⟨V6, hvv, hV6⟩, k6⟩ => ?_
  have hyl := getDe_wlen (a := a) (b := b) (c := c) (l := L2)
  obtain ⟨y, hy⟩ : ∃ y, y = getDe a b c L2 := ⟨_, rfl⟩
  rw [← hy] at hvv hV6 hyl
  subst hvv
  have l6 := k6.le
  have y6 := (k6.same n (by omega)).trans h0
  have ne6 : n ≠ n6 := by omega
  obtain ⟨xa6, xe6, hVf⟩ := hV6.rd.form
  subst hVf
  simp (maxSteps := 1000000) (disch := first | assumption | omega | rfl | decide | simp only [fitsR, Bool.and_self]) [↓rules, rules, ↓rulesDp, rulesDq, lit_u64, Int.ofNat_inj, stops, q_int, q_bool, q_uint64, q_A4_uint64, q_S_uint64, q_geo_Geo, q_api_Errno, q_state_Reply, q_S_wset_Write, q_opd_Desc, q_wset_Write, q_reeveref11_Reply, q_S_reeveref22_Write, q_reeveref22_Desc, q_reeveref1_Geo, q_reeveref22_Write, y6, ne6]
  refine ⟨by omega, ?_⟩
  generalize hG6 : gset g6 _ _ = G6
  have k7 : Kept g6 n6 G6 (n6 + 1) := by rw [← hG6]; exact (Kept.refl k6.dom).new _
  have k67 := k6.trans k7
  have z2 : G6 n6 = some (.row (cD y.1 (.slice xa6 y.2.1.length xe6)) true) := by rw [← hG6]; simp [gset]
  have rY : rdX G6 (.slice xa6 y.2.1.length xe6) y.2.1 := hV6.rd.ext (k7.ext k6.dom)
  clear hG6
  have kC := kH.trans k67
  refine rcall_quiet rfl (geoOf a b c _ _) ?_
  simp (maxSteps := 1000000) (disch := first | assumption | omega | rfl | decide | simp only [fitsR, Bool.and_self]) [↓rules, rules, ↓rulesDp, rulesDq, lit_u64, Int.ofNat_inj, stops, q_int, q_bool, q_uint64, q_A4_uint64, q_S_uint64, q_geo_Geo, q_api_Errno, q_state_Reply, q_S_wset_Write, q_opd_Desc, q_wset_Write, q_reeveref11_Reply, q_S_reeveref22_Write, q_reeveref22_Desc, q_reeveref1_Geo, q_reeveref22_Write]
  refine rcall_spec (GetDesc a b c _ L2 _ _ kC.dom (by omega) (rL2.ext (k67.ext kH.dom))) rfl (fun _ h => h.elim) rfl fun xv g7 n7 ⟨⟨V7, hvv, hV7⟩, k8⟩ => ?_
  rw [← hy] at hvv hV7
  subst hvv
  have l8 := k8.le
  obtain ⟨xa7, xe7, hVf⟩ := hV7.rd.form
  subst hVf
  have z2' := (k8.same n6 (by omega)).trans z2
  have ne7 : n6 ≠ n7 := by omega
  simp (maxSteps := 1000000) (disch := first | assumption | omega | rfl | decide | simp only [fitsR, Bool.and_self]) [↓rules, rules, ↓rulesDp, rulesDq, lit_u64, Int.ofNat_inj, stops, q_int, q_bool, q_uint64, q_A4_uint64, q_S_uint64, q_geo_Geo, q_api_Errno, q_state_Reply, q_S_wset_Write, q_opd_Desc, q_wset_Write, q_reeveref11_Reply, q_S_reeveref22_Write, q_reeveref22_Desc, q_reeveref1_Geo, q_reeveref22_Write, z2', ne7, bin_eql_bool tu_bool]
  generalize hG7 : gset _ _ _ = G7
  have k9 : Kept g7 n7 G7 (n7 + 1) := by rw [← hG7]; exact (Kept.refl k8.dom).new _
  have u7 : G7 n7 = some (.row (cD y.1 (.slice xa7 y.2.1.length xe7)) true) := by rw [← hG7]; simp [gset]
  have rZ : rdX G7 (.slice xa7 y.2.1.length xe7) y.2.1 := hV7.rd.ext (k9.ext k8.dom)
  have rY7 : rdX G7 (.slice xa6 y.2.1.length xe6) y.2.1 := rY.ext ((k8.trans k9).ext kC.dom)
  clear hG7
  have kD := (kC.trans k8).trans k9
  try refine ⟨by omega, ?_⟩
  refine dcall_spec k9.dom (descOf y.1 _ y.2.1 _ _ k9.dom (by omega) rY7) (fun _ _ _ h => h.choose_spec.2.2) rfl (by first | trivial | simp (maxSteps := 1000000) (disch := first | assumption | omega | rfl | decide | simp only [fitsR, Bool.and_self]) [↓rules, rules, ↓rulesDp, rulesDq, lit_u64, Int.ofNat_inj]) fun vv g8 n8 ⟨V8, hvv, hV8, k10⟩ => ?_
  subst hvv
  have l10 := k10.le
  have u7' := (k10.same n7 (by omega)).trans u7
  simp (maxSteps := 1000000) (disch := first | assumption | omega | rfl | decide | simp only [fitsR, Bool.and_self]) [↓rules, rules, ↓rulesDp, rulesDq, lit_u64, Int.ofNat_inj, stops, q_int, q_bool, q_uint64, q_A4_uint64, q_S_uint64, q_geo_Geo, q_api_Errno, q_state_Reply, q_S_wset_Write, q_opd_Desc, q_wset_Write, q_reeveref11_Reply, q_S_reeveref22_Write, q_reeveref22_Desc, q_reeveref1_Geo, q_reeveref22_Write, u7']
  refine dcall_quiet k10.dom rfl (sameD_self y.1 V8 _ y.2.1 _ _ (by omega) hV8.rd (rZ.ext (k10.ext k9.dom))) (by first | trivial | simp (maxSteps := 1000000) (disch := first | assumption | omega | rfl | decide | simp only [fitsR, Bool.and_self]) [↓rules, rules, ↓rulesDp, rulesDq, lit_u64, Int.ofNat_inj]) ?_
  simp (maxSteps := 1000000) (disch := first | assumption | omega | rfl | decide | simp only [fitsR, Bool.and_self]) [↓rules, rules, ↓rulesDp, rulesDq, lit_u64, Int.ofNat_inj, stops, q_int, q_bool, q_uint64, q_A4_uint64, q_S_uint64, q_geo_Geo, q_api_Errno, q_state_Reply, q_S_wset_Write, q_opd_Desc, q_wset_Write, q_reeveref11_Reply, q_S_reeveref22_Write, q_reeveref22_Desc, q_reeveref1_Geo, q_reeveref22_Write]
  exact done_q hdom (kD.trans k10) rfl rfl
end Go.Proofs.Ytafpgojoemcgnaa.F24

namespace Go.Proofs.Ytafpgojoemcgnaa.F24
open Go Go.Proofs Go.Proofs.YtafpgojoemcgnaaAbs
set_option maxRecDepth 100000
/-! Descriptors among the arguments. -/
theorem kindWr : ckinds Try.prog 9 T_wset_Write = some [.flat (.int .i64), .flat (.int .u64)] := by kernel_rfl
theorem cellsWr : Try.prog.cellsOf T_wset_Write = 2 := by kernel_rfl
theorem decWr {H : Type} {enc : TypeId × Value → H} {W : World} : ∀ c, Cells enc Try.prog W [.flat (.int .i64), .flat (.int .u64)] c → ∃ x : Wr, cW x = c ∧ True := fun c h => by
  obtain ⟨p, q, rfl, hp, hq⟩ := h.flats2
  obtain ⟨x, rfl, _⟩ := LK.i64 hp
  obtain ⟨y, rfl⟩ := LK.u64 hq
  exact ⟨⟨x, y⟩, rfl, trivial⟩
theorem decGeo {H : Type} {enc : TypeId × Value → H} {W : World} : ∀ c, Cells enc Try.prog W [.flat (.int .i64), .flat (.int .i64), .flat (.int .i64)] c → ∃ a b d : Int, VRel (idR W) (szOf W) (gv a b d) (.agg c.toArray) := fun c h => by
  obtain ⟨p, q, r, rfl, hp, hq, hr⟩ := h.flats3
  obtain ⟨x, rfl, _⟩ := LK.i64 hp
  obtain ⟨y, rfl, _⟩ := LK.i64 hq
  obtain ⟨z, rfl, _⟩ := LK.i64 hr
  exact ⟨x, y, z, pureV_rel rfl⟩
theorem decDesc {H : Type} {enc : TypeId × Value → H} {W : World} : ∀ c, Cells enc Try.prog W [.flat (.int .i64), .flat (.int .u64), .flat (.int .u64), .flat (.int .u64), .flat (.int .u64), .flat (.int .u64), .flat (.int .i64), .flat (.int .u64), .flat (.int .i64), .slice T_wset_Write] c →
    ∃ (d : De) (V : Value) (ws : List Wr), VRel (idR W) (szOf W) (vD d V) (.agg c.toArray) ∧ rdX (heapView W) V ws ∧ -9223372036854775808 ≤ d.s ∧ d.s ≤ 9223372036854775807 ∧ -9223372036854775808 ≤ d.e ∧ d.e ≤ 9223372036854775807 := fun c h => by
  have hl := h.len
  simp only [List.length_cons, List.length_nil] at hl
  match c, hl, h with
  | [c0, c1, c2, c3, c4, c5, c6, c7, c8, c9], _, h =>
    obtain ⟨x0, h0, b1, b2⟩ := LK.i64 (h.at_ 0 (by simp) (by simp))
    obtain ⟨x1, h1⟩ := LK.u64 (h.at_ 1 (by simp) (by simp))
    obtain ⟨x2, h2⟩ := LK.u64 (h.at_ 2 (by simp) (by simp))
    obtain ⟨x3, h3⟩ := LK.u64 (h.at_ 3 (by simp) (by simp))
    obtain ⟨x4, h4⟩ := LK.u64 (h.at_ 4 (by simp) (by simp))
    obtain ⟨x5, h5⟩ := LK.u64 (h.at_ 5 (by simp) (by simp))
    obtain ⟨x6, h6, b3, b4⟩ := LK.i64 (h.at_ 6 (by simp) (by simp))
    obtain ⟨x7, h7⟩ := LK.u64 (h.at_ 7 (by simp) (by simp))
    obtain ⟨x8, h8, _⟩ := LK.i64 (h.at_ 8 (by simp) (by simp))
    have h9 : (CK.slice T_wset_Write).is enc Try.prog W c9 := h.at_ 9 (by simp) (by simp)
    simp only [List.getElem_cons_zero, List.getElem_cons_succ] at h0 h1 h2 h3 h4 h5 h6 h7 h8
    obtain ⟨r, ws, hr, _, _⟩ := rd_of_slice (enc := cW) (good := fun _ => True) (e := 2) kindWr (by simp) rfl cellsWr (by decide) decWr h9
    subst h0 h1 h2 h3 h4 h5 h6 h7 h8
    refine ⟨⟨x0, x1, x2, x3, x4, x5, x6, x7, x8⟩, absV Try.prog (.slice T_wset_Write) c9, ws, .agg' ?_, hr, b1, b2, b3, b4⟩
    have u : ∀ x : BitVec 64, VRel (idR W) (szOf W) (U x) (U x) := fun x => flatV_rel (U_flatV x)
    exact VRs.cons' (.int _ _) (VRs.cons' (u _) (VRs.cons' (u _) (VRs.cons' (u _) (VRs.cons' (u _) (VRs.cons' (u _) (VRs.cons' (.int _ _) (VRs.cons' (u _) (VRs.cons' (.int _ _) (VRs.cons' r (VRs.nil _ _))))))))))
theorem decWo {H : Type} {enc : TypeId × Value → H} {W : World} : ∀ c, Cells enc Try.prog W [.flat (.int .u64)] c → ∃ x : BitVec 64, [U x] = c ∧ True := fun c h => by
  obtain ⟨a, rfl, ha⟩ := h.flats1
  obtain ⟨x, rfl⟩ := LK.u64 ha
  exact ⟨x, rfl, trivial⟩
end Go.Proofs.Ytafpgojoemcgnaa.F24
