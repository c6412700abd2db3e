/- Contracts of functions: what each one returns, and what it leaves. No statement is proved here. -/
import Derived.Test.YtfcbhgiccgommaaP10Ca
set_option linter.unusedVariables false
set_option linter.unusedSimpArgs false
set_option linter.unusedSectionVars false
namespace Go.Proofs.Ytfcbhgiccgommaa.F10
open Go Go.Proofs Go.Proofs.YtfcbhgiccgommaaAbs
variable [Base]
set_option maxHeartbeats 8000000
set_option maxRecDepth 100000
/-- ints: alike? -/
theorem intsI (va vb : Value) (xs ys : List Int) (g : AMem) (n : Nat) (hl : xs.length < 4611686018427387904) (hl' : ys.length < 4611686018427387904) (ha : rdI g va xs) (hb : rdI g vb ys) : FnC Try.prog f_reevelaw10_ints [va, vb] g n (fun _ => False) (.bool (decide (xs = ys))) g n := by
  refine fnC_of_rwp t_reevelaw10_ints hm rfl fun hdom => ?_
  obtain ⟨a, ea, hva⟩ := ha.form
  obtain ⟨b, eb, hvb⟩ := hb.form
  by_cases hne : xs.length = ys.length
  case neg =>
    simp (maxSteps := 1000000) (disch := first | assumption | omega | rfl | decide) [↓rules, rules, lit_u64, aEval_U, splice_nil, splice_zero, splice_step, gset_gset, Int.ofNat_inj, U_junk, U_cells, U_cellOk, ub_and, ub_or, ub_xor, ub_andNot, ub_add, ub_sub, ub_mul, ub_shl, ub_shr, ub_shl', ub_shr', ub_eql, ub_neq, ub_lss, ub_leq, ub_gtr, ub_geq, rc_reevelaw10_ints, hva, hvb, tu_S_int, hne]
    refine done_q hdom (Kept.refl hdom) ?_ ?_; · rfl
    rw [show decide (xs = ys) = false by simp only [decide_eq_false_iff_not]; intro h; exact hne (by rw [h])]; rfl
  simp (maxSteps := 1000000) (disch := first | assumption | omega | rfl | decide) [↓rules, rules, lit_u64, aEval_U, splice_nil, splice_zero, splice_step, gset_gset, Int.ofNat_inj, U_junk, U_cells, U_cellOk, ub_and, ub_or, ub_xor, ub_andNot, ub_add, ub_sub, ub_mul, ub_shl, ub_shr, ub_shl', ub_shr', ub_eql, ub_neq, ub_lss, ub_leq, ub_gtr, ub_geq, rc_reevelaw10_ints, hva, hvb, tu_S_int, hne]
  rw [← hvb, show Value.slice a ys.length ea = va by rw [hva, hne]]
  refine rwp_loop (fun k l g' n' => ∃ i, k = xs.length - i ∧ i ≤ xs.length ∧ g' = g ∧ n' = n ∧ xs.take i = ys.take i ∧ l = [(0, va), (1, vb), (5, .int .i64 i)]) ?_ (k := xs.length) ?_
  · rintro k l g' n' ⟨i, rfl, hi, rfl, rfl, he, rfl⟩
    simp (maxSteps := 1000000) (disch := first | assumption | omega | rfl | decide) [↓rules, rules, lit_u64, aEval_U, splice_nil, splice_zero, splice_step, gset_gset, Int.ofNat_inj, U_junk, U_cells, U_cellOk, ub_and, ub_or, ub_xor, ub_andNot, ub_add, ub_sub, ub_mul, ub_shl, ub_shr, ub_shl', ub_shr', ub_eql, ub_neq, ub_lss, ub_leq, ub_gtr, ub_geq, rc_reevelaw10_intsl0, hva, tu_S_int]
    refine rcond_dec (fun hlt => ?_) (fun hlt => ?_)
    · have hlt2 : i < ys.length := by omega
      have hlt1 : i < xs.length := by omega
      obtain ⟨b1, o1, h1, _, h2⟩ := ha.one hlt1
      obtain ⟨b2, o2, h3, _, h4⟩ := hb.one hlt2
      have e1 := h2 g' (Ext.refl _) Try.prog _ ta_int
      have e2 := h4 g' (Ext.refl _) Try.prog _ ta_int
      rw [← hva]
      simp (maxSteps := 1000000) (disch := first | assumption | omega | rfl | decide) [↓rules, rules, lit_u64, aEval_U, splice_nil, splice_zero, splice_step, gset_gset, Int.ofNat_inj, U_junk, U_cells, U_cellOk, ub_and, ub_or, ub_xor, ub_andNot, ub_add, ub_sub, ub_mul, ub_shl, ub_shr, ub_shl', ub_shr', ub_eql, ub_neq, ub_lss, ub_leq, ub_gtr, ub_geq, h1, h3, tu_S_int, ts_int, e1, e2, hne, hlt2]
      refine rcond_bool (fun c => ?_) (fun c => ?_)
      · refine done_q hdom (Kept.refl hdom) ?_ ?_; · rfl
        have c : xs[i] ≠ ys[i] := by simpa using c
        rw [show decide (xs = ys) = false by simp only [decide_eq_false_iff_not]; intro h; subst h; exact c rfl]; rfl
      · have c : xs[i] = ys[i] := by simpa using c
        simp (maxSteps := 1000000) (disch := first | assumption | omega | rfl | decide) [↓rules, rules, lit_u64, aEval_U, splice_nil, splice_zero, splice_step, gset_gset, Int.ofNat_inj, U_junk, U_cells, U_cellOk, ub_and, ub_or, ub_xor, ub_andNot, ub_add, ub_sub, ub_mul, ub_shl, ub_shr, ub_shl', ub_shr', ub_eql, ub_neq, ub_lss, ub_leq, ub_gtr, ub_geq, wrap_i64]
        refine ⟨ys.length - (i + 1), by omega, i + 1, rfl, by omega, ?_⟩
        refine ⟨by rw [take_snoc xs i hlt1, take_snoc ys i hlt2, he, c], ?_⟩
        simp
    · refine done_q hdom (Kept.refl hdom) ?_ ?_; · rfl
      have e1 : i = xs.length := by omega
      have e2 : i = ys.length := by omega
      rw [e1, List.take_length, ← e1, e2, List.take_length] at he
      rw [show decide (xs = ys) = true by simpa using he]; rfl
  · exact ⟨0, by simp, by simp, rfl, rfl, by simp, by rfl⟩

theorem keepseq_cut {P : Program} {may : Nat → Prop} {rs : List Tmp} {A B : RCode} {Q : RPost} {l : RL} {g : AMem} {n : Nat} {Q1 : RL → AMem → Nat → Prop} (h1 : rwp P may A (fun e l g n => e = .normal ∧ Q1 l g n) (keepL rs l) g n) (h2 : ∀ l g n, Q1 l g n → rwp P may B Q l g n) : rwp P may (.keep rs (.seq A B)) Q l g n := by
  obtain ⟨e, l', g', n', ⟨rfl, h⟩, h3⟩ := rwp_exact A _ _ _ h1
  exact h3 _ (h2 l' g' n' h)
/-! ### What a grown forest is -/
theorem add_facts {u : List Int} {i k : Int} (h : addOk u i k = true) : goodF (addF u i k) = true ∧ mayF (addF u i k) i = true ∧ dropF (addF u i k) i = u ∧ 0 ≤ depthS (addF u i k) i := by
  simp only [addOk, Bool.and_eq_true, decide_eq_true_eq, Bool.or_eq_true, Bool.not_eq_true'] at h
  obtain ⟨hg, ⟨h0, h1⟩, hn, hk⟩ := h
  have hr := good_rk hg
  have hu : upAt u i = -2 := by
    by_cases e : upAt u i = -2
    · exact e
    · rw [isF_iff.2 ⟨h0, h1, e⟩] at hn; cases hn
  have hk' : k = -1 ∨ isF u k = true := hk
  have hki : k ≠ i := fun e => by
    rcases hk' with rfl | hk'
    · omega
    · rw [e, hn] at hk'; cases hk'
  have hk2 : k ≠ -2 := fun e => by
    rcases hk' with rfl | hk'
    · omega
    · rw [e, ne_two] at hk'; cases hk'
  have hg' : goodF (addF u i k) = true := (hr.add h0 h1 hu hk').good (by rw [addF_len]; exact (good_parts hg).1)
  have hm : mayF (addF u i k) i = true := mayF_iff.2 ⟨hg', (isF_add h0 h1 hk2).2 (Or.inl rfl)⟩
  refine ⟨hg', hm, add_drop hr h0 h1 hu hki, ?_⟩
  unfold depthS
  rw [if_pos hm]
  omega
theorem move_facts {u : List Int} {i k : Int} (h : moveOk u i k = true) : goodF (moveF u i k) = true ∧ moveOk (moveF u i k) k i = true ∧ moveF (moveF u i k) k i = u ∧ depthS (moveF u i k) k = depthS u i ∧ (belS (moveF u i k) k).length = (belS u i).length := by
  simp only [moveOk, Bool.and_eq_true, decide_eq_true_eq, Bool.not_eq_true'] at h
  obtain ⟨hm, ⟨k0, k1⟩, hn⟩ := h
  obtain ⟨hg, hi⟩ := mayF_iff.1 hm
  have hr := good_rk hg
  obtain ⟨i0, i1, i2⟩ := isF_iff.1 hi
  have hu : upAt u k = -2 := by
    by_cases e : upAt u k = -2
    · exact e
    · rw [isF_iff.2 ⟨k0, k1, e⟩] at hn; cases hn
  have hki : k ≠ i := fun e => by rw [e, hi] at hn; cases hn
  have hl := (good_parts hg).1
  have hr2 := hr.move hi k0 k1 hu
  have hg' : goodF (moveF u i k) = true := hr2.good (by rw [moveF_len]; exact hl)
  have hfk : isF (moveF u i k) k = true := (isF_move hi k0 k1 hu).2 (Or.inl rfl)
  have hfi : isF (moveF u i k) i = false := by
    cases e : isF (moveF u i k) i
    · rfl
    · rcases (isF_move hi k0 k1 hu).1 e with e | ⟨_, e⟩
      · exact absurd e.symm hki
      · exact absurd rfl e
  have hm' : mayF (moveF u i k) k = true := mayF_iff.2 ⟨hg', hfk⟩
  refine ⟨hg', ?_, move_move hr hi k0 k1 hu, ?_, ?_⟩
  · unfold moveOk
    rw [hm', hfi, moveF_len]
    simp [i0, i1]
  · rw [depth_of hg' hfk, depth_of hg hi, hr2.dptEq (by rw [moveF_len]; exact hl) hfk]
    simp
  · unfold belS
    rw [if_pos hm', if_pos hm, move_bel hr hi k0 k1 hu]
theorem ahead_at {u : List Int} : ∀ {l S : List Int}, aheadF u S l → ∀ (k : Nat) (hk : k < l.length), upAt u l[k] = -1 ∨ upAt u l[k] ∈ S ∨ upAt u l[k] ∈ l.take k
  | x :: l, S, ⟨a, b⟩, 0, hk => a.imp id Or.inl
  | x :: l, S, ⟨a, b⟩, k + 1, hk => by
    have hk' : k < l.length := by simpa using hk
    rcases ahead_at b k hk' with h | h | h
    · exact Or.inl h
    · rcases List.mem_cons.1 h with h | h
      · exact Or.inr (Or.inr (by rw [List.take_succ_cons]; exact List.mem_cons.2 (Or.inl h)))
      · exact Or.inr (Or.inl h)
    · exact Or.inr (Or.inr (by rw [List.take_succ_cons]; exact List.mem_cons_of_mem _ h))
def thereN (u : List Int) (k : Nat) : Nat := ((List.range k).filter fun k => isF u (k : Nat)).length
theorem thereN_succ (u : List Int) (k : Nat) (hk : k < u.length) : thereN u (k + 1) = if u[k] = -2 then thereN u k else thereN u k + 1 := by
  unfold thereN
  rw [List.range_succ, List.filter_append, List.length_append]
  by_cases c : u[k] = -2
  · rw [if_pos c]
    have : isF u (k : Int) = false := isF_no (by rw [upAt_nat hk]; exact c)
    simp [this]
  · rw [if_neg c]
    have : isF u (k : Int) = true := isF_iff.2 ⟨by omega, by omega, by rw [upAt_nat hk]; exact c⟩
    simp [this]
theorem thereN_le (u : List Int) (k : Nat) : thereN u k ≤ k := Nat.le_trans (List.length_filter_le _ _) (by simp)
theorem ord_there {u : List Int} (h : goodF u = true) : (ordF u).length = thereN u u.length := by
  rw [(good_rk h).ord_perm.length_eq, List.length_map]; rfl
theorem ord_nodup {u : List Int} (h : goodF u = true) : (ordF u).Nodup := by
  refine ((good_rk h).ord_perm.nodup_iff).2 ?_
  refine List.Pairwise.map (R := fun a b => a ≠ b) _ (fun a b h e => h (Int.ofNat.inj e)) ?_
  exact List.Pairwise.filter _ List.nodup_range
theorem ord_is {u : List Int} : ∀ k, k ∈ ordF u → isF u k = true := beh_is _ _ roots_is
theorem nodup_at {l : List Int} (h : l.Nodup) (k : Nat) (hk : k < l.length) : l[k] ∉ l.take k := by
  have : (l.take (k + 1)).Nodup := h.sublist (List.take_sublist _ _)
  rw [take_snoc l k hk] at this
  have := (List.nodup_append.1 this).2.2
  intro hc
  exact this _ hc _ (by simp) rfl
/-! ### The law's loops -/
theorem grows_loop0 {K : RPost} {n m : Nat} {va VO : Value} {u : List Int} {G : AMem} (hu : u.length ≤ 96) (ha : rdI G va u)
    (hend : ∀ l', YtfcbhgiccgommaaAbs.look 0 l' = va → YtfcbhgiccgommaaAbs.look 16 l' = VO → YtfcbhgiccgommaaAbs.look 17 l' = .int .i64 (thereN u u.length) → K (.exit 0) l' G m) :
    rwp Try.prog (fun j => n ≤ j) (RCode.loop [0, 16, 17, 18] rc_reevelaw10_ForestGrowsl0) K [(0, va), (16, VO), (17, .int .i64 0), (18, .int .i64 0)] G m := by
  refine rwp_loop (fun j l g' n' => ∃ k, j = u.length - k ∧ k ≤ u.length ∧ g' = G ∧ n' = m ∧ l = [(0, va), (16, VO), (17, .int .i64 (thereN u k)), (18, .int .i64 k)]) ?_ (k := u.length) ?_
  · rintro j l g' n' ⟨k, rfl, hk, rfl, rfl, rfl⟩
    obtain ⟨xa, xe, hva⟩ := ha.form
    by_cases hlt : (k : Int) < (u.length : Int)
    case neg =>
      have : k = u.length := by omega
      subst this
      simp (maxSteps := 1000000) (disch := first | assumption | omega | rfl | decide | simp only [fitsR, Bool.and_self]) [↓rules, rules, ↓rulesDp, rulesDq, lit_u64, Int.ofNat_inj, stops, rc_reevelaw10_ForestGrowsl0, q_int, q_bool, q_S_int, q_forest_Forest, q_A96_bool, hva, hlt]
      exact hend _ (by rw [← hva]; rfl) (by rfl) (by rfl)
    have hlt1 : k < u.length := by omega
    obtain ⟨b1, o1, f1, _, f2⟩ := ha.one hlt1
    have e1 := f2 _ (Ext.refl _) Try.prog _ ta_int
    have w1 : IntKind.i64.wrap ((k : Int) + 1) = ((k + 1 : Nat) : Int) := by rw [wrap_i64 (by omega) (by omega)]; omega
    have htl := thereN_le u k
    have w2 : IntKind.i64.wrap ((thereN u k : Int) + 1) = ((thereN u k + 1 : Nat) : Int) := by rw [wrap_i64 (by omega) (by omega)]; omega
    have hts := thereN_succ u k hlt1
    by_cases c : u[k] = -2
    · rw [if_pos c] at hts
      simp (maxSteps := 1000000) (disch := first | assumption | omega | rfl | decide | simp only [fitsR, Bool.and_self]) [↓rules, rules, ↓rulesDp, rulesDq, lit_u64, Int.ofNat_inj, stops, rc_reevelaw10_ForestGrowsl0, q_int, q_bool, q_S_int, q_forest_Forest, q_A96_bool, f1, hlt, e1, c, w1]
      exact ⟨u.length - (k + 1), by omega, k + 1, rfl, by omega, by rw [hts], by omega⟩
    · rw [if_neg c] at hts
      simp (maxSteps := 1000000) (disch := first | assumption | omega | rfl | decide | simp only [fitsR, Bool.and_self]) [↓rules, rules, ↓rulesDp, rulesDq, lit_u64, Int.ofNat_inj, stops, rc_reevelaw10_ForestGrowsl0, q_int, q_bool, q_S_int, q_forest_Forest, q_A96_bool, f1, hlt, e1, c, w1, w2]
      exact ⟨u.length - (k + 1), by omega, k + 1, rfl, by omega, by rw [hts]; omega, by omega⟩
  · exact ⟨0, by simp, by simp, rfl, rfl, by rfl⟩
theorem grows_loop1 {K : RPost} {n m s : Nat} {va VO th : Value} {u os : List Int} {G : AMem} (hu : u.length ≤ 96) (hs0 : n ≤ s) (hGs : G s = some (.row (inL [] 96) true)) (ha : ∀ o, rdI (gset G s (some o)) va u) (hO : ∀ o, rdI (gset G s (some o)) VO os)
    (hos : ∀ k, k ∈ os → isF u k = true) (hnd : os.Nodup) (hah : aheadF u [] os) (hol : os.length ≤ 100000) (hok : okUp u = true)
    (hend : ∀ l' o, YtfcbhgiccgommaaAbs.look 0 l' = va → YtfcbhgiccgommaaAbs.look 16 l' = VO → YtfcbhgiccgommaaAbs.look 17 l' = th → K (.exit 2) l' (gset G s (some o)) m) :
    rwp Try.prog (fun j => n ≤ j) (RCode.loop [0, 16, 17, 19, 20] rc_reevelaw10_ForestGrowsl1) K [(0, va), (16, VO), (17, th), (19, .pointer (some ⟨s, 0, none⟩)), (20, .int .i64 0)] G m := by
  refine rwp_loop (fun j l g' n' => ∃ k, j = os.length - k ∧ k ≤ os.length ∧ g' = gset G s (some (.row (inL (os.take k) 96) true)) ∧ n' = m ∧ l = [(0, va), (16, VO), (17, th), (19, .pointer (some ⟨s, 0, none⟩)), (20, .int .i64 k)]) ?_ (k := os.length) ?_
  · rintro j l g' n' ⟨k, rfl, hk, rfl, rfl, rfl⟩
    have hOk := hO (.row (inL (os.take k) 96) true)
    have hak := ha (.row (inL (os.take k) 96) true)
    obtain ⟨xa, xe, hVO⟩ := hOk.form
    obtain ⟨ya, ye, hva⟩ := hak.form
    by_cases hlt : (k : Int) < (os.length : Int)
    case neg =>
      simp (maxSteps := 1000000) (disch := first | assumption | omega | rfl | decide | simp only [fitsR, Bool.and_self]) [↓rules, rules, ↓rulesDp, rulesDq, lit_u64, Int.ofNat_inj, stops, rc_reevelaw10_ForestGrowsl1, q_int, q_bool, q_S_int, q_forest_Forest, q_A96_bool, hVO, hlt]
      rw [← hVO]
      exact hend _ _ (by rfl) (by rfl) (by rfl)
    have hlt1 : k < os.length := by omega
    obtain ⟨b1, o1, h1, _, h2⟩ := hOk.one hlt1
    have e2 := h2 _ (Ext.refl _) Try.prog _ ta_int
    have hix := hos _ (List.getElem_mem hlt1)
    have hax := ahead_at hah k hlt1
    have hnx := nodup_at hnd k hlt1
    have hts := take_snoc os k hlt1
    obtain ⟨y0, y1, y2⟩ := isF_iff.1 hix
    obtain ⟨p, hp⟩ : ∃ p : Nat, os[k] = p := ⟨os[k].toNat, by omega⟩
    rw [hp] at e2 y1 y2 hts hax hnx hix
    have hpn : p < u.length := by omega
    obtain ⟨b3, o3, h3, _, h4⟩ := hak.one hpn
    have e4 := h4 _ (Ext.refl _) Try.prog _ ta_int
    rw [upAt_nat hpn] at hax y2
    have c0 : ¬ (p : Int) < 0 := by omega
    have c1 : ¬ (u.length : Int) ≤ p := by omega
    have c2 : (p : Int) < 96 := by omega
    have c3 : p < 96 := by omega
    have c4 : p + 1 ≤ 96 := by omega
    have hil := inL_len (os.take k) 96
    have hst := inL_set (os.take k) 96 p c3
    have hnp := inL_nth (os.take k) 96 p c3
    rw [decide_eq_false hnx] at hnp
    rw [← hts] at hst
    have w1 : IntKind.i64.wrap ((k : Int) + 1) = ((k + 1 : Nat) : Int) := by rw [wrap_i64 (by omega) (by omega)]; omega
    have hup : u[p] = -1 ∨ ∃ z : Nat, u[p] = z ∧ z < u.length ∧ nth (inL (os.take k) 96) z = some (.bool true) := by
      rcases hax with h | h | h
      · exact Or.inl h
      · cases h
      · refine Or.inr ?_
        have h5 := hos _ (List.mem_of_mem_take h)
        obtain ⟨z0, z1, _⟩ := isF_iff.1 h5
        obtain ⟨z, hz⟩ : ∃ z : Nat, u[p] = z := ⟨u[p].toNat, by omega⟩
        rw [hz] at h z1
        refine ⟨z, hz, by omega, ?_⟩
        rw [inL_nth _ _ _ (by omega), decide_eq_true h]
    generalize inL (os.take k) 96 = R at *
    simp (maxSteps := 1000000) (disch := first | assumption | omega | rfl | decide | simp only [fitsR, Bool.and_self]) [↓rules, rules, ↓rulesDp, rulesDq, lit_u64, Int.ofNat_inj, stops, rc_reevelaw10_ForestGrowsl1, q_int, q_bool, q_S_int, q_forest_Forest, q_A96_bool, hVO, hlt]
    rw [← hVO]
    refine rval_cut 19 (K1 := fun l g2 n2 => YtfcbhgiccgommaaAbs.look 0 l = va ∧ YtfcbhgiccgommaaAbs.look 16 l = VO ∧ YtfcbhgiccgommaaAbs.look 17 l = th ∧ YtfcbhgiccgommaaAbs.look 19 l = .pointer (some ⟨s, 0, none⟩) ∧ YtfcbhgiccgommaaAbs.look 20 l = .int .i64 k ∧ YtfcbhgiccgommaaAbs.look 158 l = .bool false ∧ gset G s (some (.row R true)) = g2 ∧ n' = n2) ?_ ?_
    · dsimp only [List.take]
      simp (maxSteps := 1000000) (disch := first | assumption | omega | rfl | decide | simp only [fitsR, Bool.and_self]) [↓rules, rules, ↓rulesDp, rulesDq, lit_u64, Int.ofNat_inj, stops, q_int, q_bool, q_S_int, q_forest_Forest, q_A96_bool, h1, hva, hlt, e2, c0, c1, c2, c3, hnp]
    rintro l _ _ ⟨z0, z16, z17, z19, z20, z158, rfl, rfl⟩
    dsimp only [List.drop]
    rcases hup with c5 | ⟨z, c5, c6, c7⟩
    · simp (maxSteps := 1000000) (disch := first | assumption | omega | rfl | decide | simp only [fitsR, Bool.and_self]) [↓rules, rules, ↓rulesDp, rulesDq, lit_u64, Int.ofNat_inj, stops, q_int, q_bool, q_S_int, q_forest_Forest, q_A96_bool, z0, z16, z17, z19, z20, z158, h1, h3, hlt, y1, e2, e4, c5, c2, c3, c4, hil, w1]
      rw [hst]
      exact ⟨by omega, os.length - (k + 1), by omega, k + 1, rfl, by omega, rfl, by omega⟩
    · have d1 : ¬ (95 : Int) < z := by omega
      have d2 : (z : Int) < 96 := by omega
      have d3 : z < 96 := by omega
      simp (maxSteps := 1000000) (disch := first | assumption | omega | rfl | decide | simp only [fitsR, Bool.and_self]) [↓rules, rules, ↓rulesDp, rulesDq, lit_u64, Int.ofNat_inj, stops, q_int, q_bool, q_S_int, q_forest_Forest, q_A96_bool, z0, z16, z17, z19, z20, z158, h1, h3, hlt, y1, e2, e4, c5, c2, c3, c4, hil, w1, c7, d1, d2, d3]
      rw [hst]
      exact ⟨by omega, os.length - (k + 1), by omega, k + 1, rfl, by omega, rfl, by omega⟩
  · exact ⟨0, by simp, by simp, by rw [List.take_zero]; exact (gset_eta hGs).symm, rfl, by rfl⟩
end Go.Proofs.Ytfcbhgiccgommaa.F10

namespace Go.Proofs.Ytfcbhgiccgommaa.F10
open Go Go.Proofs Go.Proofs.YtfcbhgiccgommaaAbs
variable [Base]
set_option maxHeartbeats 8000000
set_option maxRecDepth 100000
theorem Gi.cell {n : Nat} {g : AMem} {v : Value} {xs : List Int} (h : Gi n g v xs) : cellOk v = true := by obtain ⟨pa, pe, h⟩ := h.rd.form; rw [h]; rfl
theorem forestGrows (va : Value) (u : List Int) (i k : Int) (g : AMem) (n : Nat) (hdom : ∀ i, g i ≠ none → i < n) (ha : rdI g va u) : FnC Try.prog f_reevelaw10_ForestGrows [va, .int .i64 i, .int .i64 k] g n (fun _ => False) (.bool true) g n := by
  refine fnC_of_rwp t_reevelaw10_ForestGrows hm rfl fun hdom => ?_
  obtain ⟨a, ea, hva⟩ := ha.form
  simp (maxSteps := 1000000) (disch := first | assumption | omega | rfl | decide | simp only [fitsR, Bool.and_self]) [↓rules, rules, ↓rulesDp, rulesDq, lit_u64, Int.ofNat_inj, stops, rc_reevelaw10_ForestGrows, q_int, q_bool, q_S_int, q_forest_Forest, q_A96_bool]
  refine rcall_quiet rfl (awake10 _ _) ?_
  simp (maxSteps := 1000000) (disch := first | assumption | omega | rfl | decide | simp only [fitsR, Bool.and_self]) [↓rules, rules, ↓rulesDp, rulesDq, lit_u64, Int.ofNat_inj, stops, q_int, q_bool, q_S_int, q_forest_Forest, q_A96_bool]
  refine rcall_spec (law_up va g n hdom u ha) rfl (fun _ h => h.elim) rfl fun r g1 n1 ⟨hr, q1⟩ => ?_
  subst hr
  have l1 := q1.le
  have k1 := q1.new (.row [va] true)
  have ha1 := ha.ext (k1.ext hdom)
  have hG0 : gset g1 n1 (some (.row [va] true)) n1 = some (.row [va] true) := by simp [gset]
  by_cases c1 : (96 : Int) < u.length
  · simp (maxSteps := 1000000) (disch := first | assumption | omega | rfl | decide | simp only [fitsR, Bool.and_self]) [↓rules, rules, ↓rulesDp, rulesDq, lit_u64, Int.ofNat_inj, stops, q_int, q_bool, q_S_int, q_forest_Forest, q_A96_bool, hva, c1]
    rw [← hva]
    exact ⟨by omega, done_q hdom k1 rfl rfl⟩
  simp (maxSteps := 1000000) (disch := first | assumption | omega | rfl | decide | simp only [fitsR, Bool.and_self]) [↓rules, rules, ↓rulesDp, rulesDq, lit_u64, Int.ofNat_inj, stops, q_int, q_bool, q_S_int, q_forest_Forest, q_A96_bool, hva, c1]
  rw [← hva]
  generalize hG : gset g1 n1 (some (.row [va] true)) = G at *
  refine ⟨by omega, ?_⟩
  refine rcall_quiet rfl (forest_Good va u _ _ (by omega) ha1) ?_
  cases cg : goodF u
  · simp (maxSteps := 1000000) (disch := first | assumption | omega | rfl | decide | simp only [fitsR, Bool.and_self]) [↓rules, rules, ↓rulesDp, rulesDq, lit_u64, Int.ofNat_inj, stops, q_int, q_bool, q_S_int, q_forest_Forest, q_A96_bool]
    exact done_q hdom k1 rfl rfl
  have hr := good_rk cg
  simp (maxSteps := 1000000) (disch := first | assumption | omega | rfl | decide | simp only [fitsR, Bool.and_self]) [↓rules, rules, ↓rulesDp, rulesDq, lit_u64, Int.ofNat_inj, stops, q_int, q_bool, q_S_int, q_forest_Forest, q_A96_bool, hG0]
  refine rcall_spec (forest_Add va u i k _ _ k1.dom (by omega) ha1) rfl (fun _ h => h.elim) rfl fun r2 g2 n2 ⟨Va, hr2, rA, q2⟩ => ?_
  subst hr2
  have k2 := k1.trans q2
  have l2 := q2.le
  have hca := rA.cell
  have h20 : g2 n1 = some (.row [va] true) := by rw [q2.same _ (by omega)]; exact hG0
  refine rrun_mono (K := fun l g3 n3 => YtfcbhgiccgommaaAbs.look 0 l = va ∧ YtfcbhgiccgommaaAbs.look 1 l = .int .i64 i ∧ YtfcbhgiccgommaaAbs.look 2 l = .int .i64 k ∧ YtfcbhgiccgommaaAbs.look 7 l = .pointer (some ⟨n1, 0, none⟩) ∧ YtfcbhgiccgommaaAbs.look 8 l = .pointer (some ⟨n2, 0, none⟩) ∧ YtfcbhgiccgommaaAbs.look 9 l = .bool (addOk u i k) ∧ gset g2 n2 (some (.row [Va] true)) = g3 ∧ n2 + 1 = n3) ?_ ?_
  · simp (maxSteps := 1000000) (disch := first | assumption | omega | rfl | decide | simp only [fitsR, Bool.and_self]) [↓rules, rules, ↓rulesDp, rulesDq, lit_u64, Int.ofNat_inj, stops, q_int, q_bool, q_S_int, q_forest_Forest, q_A96_bool, hca]
    omega
  rintro l _ _ ⟨z0, z1, z2, z7, z8, z9, rfl, rfl⟩
  have k3 := k2.new (.row [Va] true)
  have h30 : gset g2 n2 (some (.row [Va] true)) n1 = some (.row [va] true) := by rw [gset, if_neg (by omega)]; exact h20
  have h3a : gset g2 n2 (some (.row [Va] true)) n2 = some (.row [Va] true) := by simp [gset]
  have rA3 := rA.new (o := some (.row [Va] true)) q2.dom
  generalize hG3 : gset g2 n2 (some (.row [Va] true)) = G3 at *
  refine keepseq_cut (Q1 := fun l g4 n4 => YtfcbhgiccgommaaAbs.look 0 l = va ∧ YtfcbhgiccgommaaAbs.look 1 l = .int .i64 i ∧ YtfcbhgiccgommaaAbs.look 2 l = .int .i64 k ∧ YtfcbhgiccgommaaAbs.look 7 l = .pointer (some ⟨n1, 0, none⟩) ∧ Kept g n g4 n4 ∧ g4 n1 = some (.row [va] true) ∧ n1 < n4) ?_ ?_
  · cases cA : addOk u i k
    · rw [cA] at z9
      simp (maxSteps := 1000000) (disch := first | assumption | omega | rfl | decide | simp only [fitsR, Bool.and_self]) [↓rules, rules, ↓rulesDp, rulesDq, lit_u64, Int.ofNat_inj, stops, q_int, q_bool, q_S_int, q_forest_Forest, q_A96_bool, z0, z1, z2, z7, z8, z9]
      exact ⟨k3, h30, by omega⟩
    · obtain ⟨f1, f2, f3, f4⟩ := add_facts cA
      rw [cA] at z9
      rw [if_pos cA] at rA3
      have haL : (addF u i k).length ≤ 100000 := by rw [addF_len]; omega
      simp (maxSteps := 1000000) (disch := first | assumption | omega | rfl | decide | simp only [fitsR, Bool.and_self]) [↓rules, rules, ↓rulesDp, rulesDq, lit_u64, Int.ofNat_inj, stops, q_int, q_bool, q_S_int, q_forest_Forest, q_A96_bool, z0, z1, z2, z7, z8, z9, h3a]
      refine rcall_spec (forest_Drop Va (addF u i k) i _ _ k3.dom haL rA3.rd) rfl (fun _ h => h.elim) rfl fun r5 g5 n5 ⟨Vb, hr5, rB, q5⟩ => ?_
      subst hr5
      rw [f2]
      rw [if_pos f2, f3] at rB
      have k5 := k3.trans q5
      have l5 := q5.le
      have hcb := rB.cell
      have h50 : g5 n1 = some (.row [va] true) := by rw [q5.same _ (by omega)]; exact h30
      have h5a : g5 n2 = some (.row [Va] true) := by rw [q5.same _ (by omega)]; exact h3a
      have k6 := k5.new (.row [Vb] true)
      have h60 : gset g5 n5 (some (.row [Vb] true)) n1 = some (.row [va] true) := by rw [gset, if_neg (by omega)]; exact h50
      have h6a : gset g5 n5 (some (.row [Vb] true)) n2 = some (.row [Va] true) := by rw [gset, if_neg (by omega)]; exact h5a
      have h6b : gset g5 n5 (some (.row [Vb] true)) n5 = some (.row [Vb] true) := by simp [gset]
      have rA6 := (rA3.kept k3.dom q5).new (o := some (.row [Vb] true)) k5.dom
      have rB6 := rB.new (o := some (.row [Vb] true)) k5.dom
      simp (maxSteps := 1000000) (disch := first | assumption | omega | rfl | decide | simp only [fitsR, Bool.and_self]) [↓rules, rules, ↓rulesDp, rulesDq, lit_u64, Int.ofNat_inj, stops, q_int, q_bool, q_S_int, q_forest_Forest, q_A96_bool, hcb]
      generalize hG6 : gset g5 n5 (some (.row [Vb] true)) = G6 at *
      refine ⟨by omega, ?_⟩
      simp (maxSteps := 1000000) (disch := first | assumption | omega | rfl | decide | simp only [fitsR, Bool.and_self]) [↓rules, rules, ↓rulesDp, rulesDq, lit_u64, Int.ofNat_inj, stops, q_int, q_bool, q_S_int, q_forest_Forest, q_A96_bool, h6a, h5a]
      refine rcall_quiet rfl (forest_Good Va (addF u i k) _ _ haL rA6.rd) ?_
      rw [f1]
      simp (maxSteps := 1000000) (disch := first | assumption | omega | rfl | decide | simp only [fitsR, Bool.and_self]) [↓rules, rules, ↓rulesDp, rulesDq, lit_u64, Int.ofNat_inj, stops, q_int, q_bool, q_S_int, q_forest_Forest, q_A96_bool, h6b]
      refine rcall_quiet rfl (intsI Vb va u u _ _ (by omega) (by omega) rB6.rd (ha.ext (k6.ext hdom))) ?_
      have hdec : decide (u = u) = true := by simp
      rw [hdec]
      simp (maxSteps := 1000000) (disch := first | assumption | omega | rfl | decide | simp only [fitsR, Bool.and_self]) [↓rules, rules, ↓rulesDp, rulesDq, lit_u64, Int.ofNat_inj, stops, q_int, q_bool, q_S_int, q_forest_Forest, q_A96_bool, h6a]
      refine rcall_quiet rfl (forest_Depth Va (addF u i k) i _ _ haL rA6.rd) ?_
      have f5 : ¬ depthS (addF u i k) i < 0 := by omega
      simp (maxSteps := 1000000) (disch := first | assumption | omega | rfl | decide | simp only [fitsR, Bool.and_self]) [↓rules, rules, ↓rulesDp, rulesDq, lit_u64, Int.ofNat_inj, stops, q_int, q_bool, q_S_int, q_forest_Forest, q_A96_bool, f5]
      exact ⟨k6, h60, by omega⟩
  clear z0 z1 z2 z7 z8 z9 rA3 h3a h30 k3 rA q2 k2 h20 hca hG0 ha1 k1 hG
  rintro l g4 n4 ⟨z0, z1, z2, z7, k4, h40, l4⟩
  simp (maxSteps := 1000000) (disch := first | assumption | omega | rfl | decide | simp only [fitsR, Bool.and_self]) [↓rules, rules, ↓rulesDp, rulesDq, lit_u64, Int.ofNat_inj, stops, q_int, q_bool, q_S_int, q_forest_Forest, q_A96_bool, z0, z1, z2, z7, h40]
  refine rcall_spec (forest_Move va u i k _ _ k4.dom (by omega) (ha.ext (k4.ext hdom))) rfl (fun _ h => h.elim) rfl fun r7 g7 n7 ⟨Vm, hr7, rM, q7⟩ => ?_
  subst hr7
  have k7 := k4.trans q7
  have l7 := q7.le
  have hcm := rM.cell
  have h70 : g7 n1 = some (.row [va] true) := by rw [q7.same _ (by omega)]; exact h40
  refine rrun_mono (K := fun l g3 n3 => YtfcbhgiccgommaaAbs.look 0 l = va ∧ YtfcbhgiccgommaaAbs.look 1 l = .int .i64 i ∧ YtfcbhgiccgommaaAbs.look 2 l = .int .i64 k ∧ YtfcbhgiccgommaaAbs.look 7 l = .pointer (some ⟨n1, 0, none⟩) ∧ YtfcbhgiccgommaaAbs.look 12 l = .pointer (some ⟨n7, 0, none⟩) ∧ YtfcbhgiccgommaaAbs.look 13 l = .bool (moveOk u i k) ∧ gset g7 n7 (some (.row [Vm] true)) = g3 ∧ n7 + 1 = n3) ?_ ?_
  · simp (maxSteps := 1000000) (disch := first | assumption | omega | rfl | decide | simp only [fitsR, Bool.and_self]) [↓rules, rules, ↓rulesDp, rulesDq, lit_u64, Int.ofNat_inj, stops, q_int, q_bool, q_S_int, q_forest_Forest, q_A96_bool, hcm, z0, z1, z2, z7]
    omega
  clear z0 z1 z2 z7
  rintro l _ _ ⟨z0, z1, z2, z7, z12, z13, rfl, rfl⟩
  have k8 := k7.new (.row [Vm] true)
  have h80 : gset g7 n7 (some (.row [Vm] true)) n1 = some (.row [va] true) := by rw [gset, if_neg (by omega)]; exact h70
  have h8m : gset g7 n7 (some (.row [Vm] true)) n7 = some (.row [Vm] true) := by simp [gset]
  have rM8 := rM.new (o := some (.row [Vm] true)) q7.dom
  generalize hG8 : gset g7 n7 (some (.row [Vm] true)) = G8 at *
  refine keepseq_cut (Q1 := fun l g4 n4 => YtfcbhgiccgommaaAbs.look 0 l = va ∧ YtfcbhgiccgommaaAbs.look 7 l = .pointer (some ⟨n1, 0, none⟩) ∧ Kept g n g4 n4 ∧ g4 n1 = some (.row [va] true) ∧ n1 < n4) ?_ ?_
  · cases cM : moveOk u i k
    · rw [cM] at z13
      simp (maxSteps := 1000000) (disch := first | assumption | omega | rfl | decide | simp only [fitsR, Bool.and_self]) [↓rules, rules, ↓rulesDp, rulesDq, lit_u64, Int.ofNat_inj, stops, q_int, q_bool, q_S_int, q_forest_Forest, q_A96_bool, z0, z1, z2, z7, z12, z13]
      exact ⟨k8, h80, by omega⟩
    · obtain ⟨f1, f2, f3, f4, f5⟩ := move_facts cM
      rw [cM] at z13
      rw [if_pos cM] at rM8
      have haL : (moveF u i k).length ≤ 100000 := by rw [moveF_len]; omega
      simp (maxSteps := 1000000) (disch := first | assumption | omega | rfl | decide | simp only [fitsR, Bool.and_self]) [↓rules, rules, ↓rulesDp, rulesDq, lit_u64, Int.ofNat_inj, stops, q_int, q_bool, q_S_int, q_forest_Forest, q_A96_bool, z0, z1, z2, z7, z12, z13, h8m]
      refine rcall_spec (forest_Move Vm (moveF u i k) k i _ _ k8.dom haL rM8.rd) rfl (fun _ h => h.elim) rfl fun r5 g5 n5 ⟨Vb, hr5, rB, q5⟩ => ?_
      subst hr5
      rw [f2]
      rw [if_pos f2, f3] at rB
      have k5 := k8.trans q5
      have l5 := q5.le
      have hcb := rB.cell
      have h50 : g5 n1 = some (.row [va] true) := by rw [q5.same _ (by omega)]; exact h80
      have h5a : g5 n7 = some (.row [Vm] true) := by rw [q5.same _ (by omega)]; exact h8m
      have k6 := k5.new (.row [Vb] true)
      have h60 : gset g5 n5 (some (.row [Vb] true)) n1 = some (.row [va] true) := by rw [gset, if_neg (by omega)]; exact h50
      have h6a : gset g5 n5 (some (.row [Vb] true)) n7 = some (.row [Vm] true) := by rw [gset, if_neg (by omega)]; exact h5a
      have h6b : gset g5 n5 (some (.row [Vb] true)) n5 = some (.row [Vb] true) := by simp [gset]
      have rM6 := (rM8.kept k8.dom q5).new (o := some (.row [Vb] true)) k5.dom
      have rB6 := rB.new (o := some (.row [Vb] true)) k5.dom
      simp (maxSteps := 1000000) (disch := first | assumption | omega | rfl | decide | simp only [fitsR, Bool.and_self]) [↓rules, rules, ↓rulesDp, rulesDq, lit_u64, Int.ofNat_inj, stops, q_int, q_bool, q_S_int, q_forest_Forest, q_A96_bool, hcb]
      generalize hG6 : gset g5 n5 (some (.row [Vb] true)) = G6 at *
      refine ⟨by omega, ?_⟩
      simp (maxSteps := 1000000) (disch := first | assumption | omega | rfl | decide | simp only [fitsR, Bool.and_self]) [↓rules, rules, ↓rulesDp, rulesDq, lit_u64, Int.ofNat_inj, stops, q_int, q_bool, q_S_int, q_forest_Forest, q_A96_bool, h6a, h5a]
      refine dcall_quiet k6.dom rfl (forest_Good Vm (moveF u i k) _ _ haL rM6.rd) (by simp (maxSteps := 1000000) (disch := first | assumption | omega | rfl | decide | simp only [fitsR, Bool.and_self]) [↓rules, rules, ↓rulesDp, rulesDq, lit_u64, Int.ofNat_inj]) ?_
      rw [f1]
      simp (maxSteps := 1000000) (disch := first | assumption | omega | rfl | decide | simp only [fitsR, Bool.and_self]) [↓rules, rules, ↓rulesDp, rulesDq, lit_u64, Int.ofNat_inj, stops, q_int, q_bool, q_S_int, q_forest_Forest, q_A96_bool, h6b]
      refine dcall_quiet k6.dom rfl (intsI Vb va u u _ _ (by omega) (by omega) rB6.rd (ha.ext (k6.ext hdom))) (by simp (maxSteps := 1000000) (disch := first | assumption | omega | rfl | decide | simp only [fitsR, Bool.and_self]) [↓rules, rules, ↓rulesDp, rulesDq, lit_u64, Int.ofNat_inj]) ?_
      have hdec : decide (u = u) = true := by simp
      rw [hdec]
      simp (maxSteps := 1000000) (disch := first | assumption | omega | rfl | decide | simp only [fitsR, Bool.and_self]) [↓rules, rules, ↓rulesDp, rulesDq, lit_u64, Int.ofNat_inj, stops, q_int, q_bool, q_S_int, q_forest_Forest, q_A96_bool, h6a]
      refine dcall_quiet k6.dom rfl (forest_Depth Vm (moveF u i k) k _ _ haL rM6.rd) (by simp (maxSteps := 1000000) (disch := first | assumption | omega | rfl | decide | simp only [fitsR, Bool.and_self]) [↓rules, rules, ↓rulesDp, rulesDq, lit_u64, Int.ofNat_inj]) ?_
      rw [f4]
      simp (maxSteps := 1000000) (disch := first | assumption | omega | rfl | decide | simp only [fitsR, Bool.and_self]) [↓rules, rules, ↓rulesDp, rulesDq, lit_u64, Int.ofNat_inj, stops, q_int, q_bool, q_S_int, q_forest_Forest, q_A96_bool, h60]
      refine dcall_quiet k6.dom rfl (forest_Depth va u i _ _ (by omega) (ha.ext (k6.ext hdom))) (by simp (maxSteps := 1000000) (disch := first | assumption | omega | rfl | decide | simp only [fitsR, Bool.and_self]) [↓rules, rules, ↓rulesDp, rulesDq, lit_u64, Int.ofNat_inj]) ?_
      simp (maxSteps := 1000000) (disch := first | assumption | omega | rfl | decide | simp only [fitsR, Bool.and_self]) [↓rules, rules, ↓rulesDp, rulesDq, lit_u64, Int.ofNat_inj, stops, q_int, q_bool, q_S_int, q_forest_Forest, q_A96_bool, h6a]
      refine dcall_spec k6.dom (forest_Below Vm (moveF u i k) k _ _ k6.dom haL rM6.rd) (fun _ _ _ h => h.2) rfl (by simp (maxSteps := 1000000) (disch := first | assumption | omega | rfl | decide | simp only [fitsR, Bool.and_self]) [↓rules, rules, ↓rulesDp, rulesDq, lit_u64, Int.ofNat_inj]) fun V9 g9 n9 ⟨r9, q9⟩ => ?_
      have k9 := k6.trans q9
      have l9 := q9.le
      have h90 : g9 n1 = some (.row [va] true) := by rw [q9.same _ (by omega)]; exact h60
      obtain ⟨xa, xe, hV9⟩ := r9.rd.form
      rw [f5] at hV9
      simp (maxSteps := 1000000) (disch := first | assumption | omega | rfl | decide | simp only [fitsR, Bool.and_self]) [↓rules, rules, ↓rulesDp, rulesDq, lit_u64, Int.ofNat_inj, stops, q_int, q_bool, q_S_int, q_forest_Forest, q_A96_bool, hV9, h90]
      refine dcall_spec k9.dom (forest_Below va u i _ _ k9.dom (by omega) (ha.ext (k9.ext hdom))) (fun _ _ _ h => h.2) rfl (by simp (maxSteps := 1000000) (disch := first | assumption | omega | rfl | decide | simp only [fitsR, Bool.and_self]) [↓rules, rules, ↓rulesDp, rulesDq, lit_u64, Int.ofNat_inj]) fun V10 g10 n10 ⟨r10, q10⟩ => ?_
      have k10 := k9.trans q10
      have l10 := q10.le
      have h100 : g10 n1 = some (.row [va] true) := by rw [q10.same _ (by omega)]; exact h90
      obtain ⟨ya, ye, hV10⟩ := r10.rd.form
      simp (maxSteps := 1000000) (disch := first | assumption | omega | rfl | decide | simp only [fitsR, Bool.and_self]) [↓rules, rules, ↓rulesDp, rulesDq, lit_u64, Int.ofNat_inj, stops, q_int, q_bool, q_S_int, q_forest_Forest, q_A96_bool, hV10]
      exact ⟨k10, h100, by omega⟩
  clear z0 z1 z2 z7 z12 z13 rM8 h8m h80 k8 rM q7 k7 h70 hcm h40 k4 l4
  rintro l g4 n4 ⟨z0, z7, k4, h40, l4⟩
  simp (maxSteps := 1000000) (disch := first | assumption | omega | rfl | decide | simp only [fitsR, Bool.and_self]) [↓rules, rules, ↓rulesDp, rulesDq, lit_u64, Int.ofNat_inj, stops, q_int, q_bool, q_S_int, q_forest_Forest, q_A96_bool, z0, z7, h40]
  refine rcall_spec (forest_Order va u _ _ k4.dom (by omega) (ha.ext (k4.ext hdom))) rfl (fun _ h => h.elim) rfl fun VO g11 n11 ⟨rO, q11⟩ => ?_
  have k11 := k4.trans q11
  have l11 := q11.le
  rw [show ordS u = ordF u by unfold ordS; rw [if_pos cg]] at rO
  simp (maxSteps := 1000000) (disch := first | assumption | omega | rfl | decide | simp only [fitsR, Bool.and_self]) [↓rules, rules, ↓rulesDp, rulesDq, lit_u64, Int.ofNat_inj, stops, q_int, q_bool, q_S_int, q_forest_Forest, q_A96_bool, z0]
  refine grows_loop0 (u := u) (by omega) (ha.ext (k11.ext hdom)) fun l' y0 y16 y17 => ?_
  simp (maxSteps := 1000000) (disch := first | assumption | omega | rfl | decide | simp only [fitsR, Bool.and_self]) [↓rules, rules, ↓rulesDp, rulesDq, lit_u64, Int.ofNat_inj, stops, q_int, q_bool, q_S_int, q_forest_Forest, q_A96_bool, y0, y16, y17, tz_seen]
  have k12 := k11.new (.row (inL [] 96) true)
  refine grows_loop1 (u := u) (os := ordF u) (by omega) (by omega) (by simp [gset]) (fun o => by rw [gset_gset]; exact ha.ext ((k11.new o).ext hdom)) (fun o => by rw [gset_gset]; exact (rO.new k11.dom).rd) ord_is (ord_nodup cg) (ord_ahead u) (Nat.le_trans (ord_len cg) (by omega)) (good_parts cg).2.1 fun l2 o y0 y16 y17 => ?_
  rw [gset_gset]
  obtain ⟨xa, xe, hVO⟩ := rO.rd.form
  rw [ord_there cg] at hVO
  rw [hVO] at y16
  simp (maxSteps := 1000000) (disch := first | assumption | omega | rfl | decide | simp only [fitsR, Bool.and_self]) [↓rules, rules, ↓rulesDp, rulesDq, lit_u64, Int.ofNat_inj, stops, q_int, q_bool, q_S_int, q_forest_Forest, q_A96_bool, y0, y16, y17]
  exact done_q hdom (k11.new o) rfl rfl
end Go.Proofs.Ytfcbhgiccgommaa.F10
