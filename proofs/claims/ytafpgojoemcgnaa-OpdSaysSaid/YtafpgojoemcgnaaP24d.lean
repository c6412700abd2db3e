/- Contracts of functions: what each one returns, and what it leaves. No statement is proved here. -/
import Derived.Test.YtafpgojoemcgnaaP24c
set_option linter.unusedVariables false
set_option linter.unusedSimpArgs false
namespace Go.Proofs.Ytafpgojoemcgnaa.F24
open Go Go.Proofs Go.Proofs.YtafpgojoemcgnaaAbs
set_option maxHeartbeats 8000000
set_option maxRecDepth 100000
abbrev wordsF : List (Int × Int) := [(0, 8), (8, 8), (16, 16), (32, 32)]
theorem good_wordsF : goodF wordsF = true := by decide +kernel
theorem fo_words : ∀ f ∈ wordsF, fOk f := by
  intro f hf; simp only [wordsF, List.mem_cons, List.not_mem_nil, or_false] at hf
  rcases hf with rfl | rfl | rfl | rfl <;> (unfold fOk; omega)
theorem opd_fields (n : Nat) : FnS Try.prog f_opd_fields [] (fun _ => none) n (fun _ => False) fun v g' n' => rdF g' v wordsF ∧ Kept (fun _ => none) n g' n' :=
  fields_run (k := 10) (d := 3) (b := 0) (m := 1) (by kernel_rfl) (by kernel_rfl) (by kernel_rfl) (by kernel_rfl) n
/-- The first word as opd.First reckons it. -/
def fstL (d : De) (k : Nat) : List (BitVec 64) := [BitVec.ofInt 64 d.s, BitVec.ofInt 64 d.e, BitVec.ofNat 64 k, d.q]
def fstP (d : De) (k : Nat) : BitVec 64 :=
  if (putsF wordsF (fstL d k)).2 = true ∧ k ≤ 600 ∧ mxW (BitVec.ofInt 64 d.s) (BitVec.ofInt 64 d.e) ≤ 255#64 then (putsF wordsF (fstL d k)).1 else 0#64
theorem opd_First (d : De) (W : Value) (ws : List Wr) (g : AMem) (n : Nat) (hl : ws.length < 4611686018427387904) (hv : rdX g W ws) : FnC Try.prog f_opd_First [vD d W] g n (fun _ => False) (U (fstP d ws.length)) g n := by
  refine fnC_of_rwp t_opd_First hm rfl fun hdom => ?_
  obtain ⟨va, ve, rfl⟩ := hv.form
  simp (maxSteps := 1000000) (disch := first | assumption | omega | rfl | decide | simp only [fitsR, Bool.and_self]) [↓rules, rules, ↓rulesDp, rulesDq, lit_u64, Int.ofNat_inj, stops, rc_opd_First, q_int, q_bool, q_uint64, q_A4_uint64, q_S_uint64, q_api_Errno, q_state_Reply, q_S_wset_Write, q_opd_Desc, q_wset_Write, q_S_tag_Field, q_tag_Field, conv_to_u64 tu_int tu_uint64, conv_to_u64 tu_api_Errno tu_uint64]
  have k0 : Kept g n (gset (gset g n (some (.row (cD d (.slice va ws.length ve)) true))) (n + 1) (some (.row [U (BitVec.ofInt 64 d.s), U (BitVec.ofInt 64 d.e), U (BitVec.ofNat 64 ws.length), U d.q] true))) (n + 1 + 1) := (by repeat first | exact Kept.refl hdom | refine Kept.new ?_ _ | refine Kept.drop ?_ (by omega) | refine Kept.put ?_ (by omega) (by omega) _ | refine Kept.skip ?_)
  refine rcall_spec (FnS.over0 (opd_fields _) (fun _ _ _ h => h.2) (Kept.dom k0)) rfl (fun _ h => h.elim) rfl fun vf g1 n1 ⟨h', ⟨p1, p2⟩, k1, x1⟩ => ?_
  have kk := k0.trans k1
  have r0 : g1 n = some (.row (cD d (.slice va ws.length ve)) true) := by rw [k1.same n (by omega)]; simp [gset]
  have r1 : g1 (n + 1) = some (.row [U (BitVec.ofInt 64 d.s), U (BitVec.ofInt 64 d.e), U (BitVec.ofNat 64 ws.length), U d.q] true) := by rw [k1.same (n + 1) (by omega)]; simp [gset]
  have rw1 : rdW g1 (.slice (some ⟨n + 1, 0, none⟩) 4 1) (fstL d ws.length) := rd_row (ws := fstL d ws.length) r1 rfl
  have rw2 : rdW g1 (.slice (some ⟨n + 1, 0, none⟩) 2 1) [BitVec.ofInt 64 d.s, BitVec.ofInt 64 d.e] := rd_part (enc := fun w => [U w]) (fun _ => rfl) rw1 0 2 (by show 0 + 2 ≤ 4; decide)
  simp (maxSteps := 1000000) (disch := first | assumption | omega | rfl | decide | simp only [fitsR, Bool.and_self]) [↓rules, rules, ↓rulesDp, rulesDq, lit_u64, Int.ofNat_inj, stops, q_int, q_bool, q_uint64, q_A4_uint64, q_S_uint64, q_api_Errno, q_state_Reply, q_S_wset_Write, q_opd_Desc, q_wset_Write, q_S_tag_Field, q_tag_Field]
  refine rcall_quiet rfl (Put vf _ wordsF (fstL d ws.length) _ _ (by decide) (by simp [fstL]) fo_words (p1.ext x1) rw1) ?_
  generalize hp : putsF wordsF (fstL d ws.length) = p
  obtain ⟨pw, pk⟩ := p
  have hf : fstP d ws.length = if pk = true ∧ ws.length ≤ 600 ∧ mxW (BitVec.ofInt 64 d.s) (BitVec.ofInt 64 d.e) ≤ 255#64 then pw else 0#64 := by rw [fstP, hp]
  cases pk
  · simp (maxSteps := 1000000) (disch := first | assumption | omega | rfl | decide | simp only [fitsR, Bool.and_self]) [↓rules, rules, ↓rulesDp, rulesDq, lit_u64, Int.ofNat_inj, stops, q_int, q_bool, q_uint64, q_A4_uint64, q_S_uint64, q_api_Errno, q_state_Reply, q_S_wset_Write, q_opd_Desc, q_wset_Write, q_S_tag_Field, q_tag_Field]
    refine done_q hdom kk rfl ?_
    rw [hf]; simp; rfl
  by_cases c1 : 600 < (ws.length : Int)
  · simp (maxSteps := 1000000) (disch := first | assumption | omega | rfl | decide | simp only [fitsR, Bool.and_self]) [↓rules, rules, ↓rulesDp, rulesDq, lit_u64, Int.ofNat_inj, stops, q_int, q_bool, q_uint64, q_A4_uint64, q_S_uint64, q_api_Errno, q_state_Reply, q_S_wset_Write, q_opd_Desc, q_wset_Write, q_S_tag_Field, q_tag_Field, r0, c1]
    refine done_q hdom kk rfl ?_
    rw [hf, if_neg (by omega)]; rfl
  simp (maxSteps := 1000000) (disch := first | assumption | omega | rfl | decide | simp only [fitsR, Bool.and_self]) [↓rules, rules, ↓rulesDp, rulesDq, lit_u64, Int.ofNat_inj, stops, q_int, q_bool, q_uint64, q_A4_uint64, q_S_uint64, q_api_Errno, q_state_Reply, q_S_wset_Write, q_opd_Desc, q_wset_Write, q_S_tag_Field, q_tag_Field, r0, r1, c1]
  refine rcall_quiet rfl (slices_MaxW _ (BitVec.ofInt 64 d.s) [BitVec.ofInt 64 d.e] _ _ (show (1 : Nat) < 4611686018427387903 by decide) rw2) ?_
  rw [show List.foldl mxW (BitVec.ofInt 64 d.s) [BitVec.ofInt 64 d.e] = mxW (BitVec.ofInt 64 d.s) (BitVec.ofInt 64 d.e) from rfl]
  generalize mxW (BitVec.ofInt 64 d.s) (BitVec.ofInt 64 d.e) = m at hf
  by_cases c2 : 255#64 < m
  · simp (maxSteps := 1000000) (disch := first | assumption | omega | rfl | decide | simp only [fitsR, Bool.and_self]) [↓rules, rules, ↓rulesDp, rulesDq, lit_u64, Int.ofNat_inj, stops, q_int, q_bool, q_uint64, q_A4_uint64, q_S_uint64, q_api_Errno, q_state_Reply, q_S_wset_Write, q_opd_Desc, q_wset_Write, q_S_tag_Field, q_tag_Field, c2]
    refine done_q hdom kk rfl ?_
    rw [hf, if_neg (fun h => BitVec.not_le.2 c2 h.2.2)]; rfl
  · simp (maxSteps := 1000000) (disch := first | assumption | omega | rfl | decide | simp only [fitsR, Bool.and_self]) [↓rules, rules, ↓rulesDp, rulesDq, lit_u64, Int.ofNat_inj, stops, q_int, q_bool, q_uint64, q_A4_uint64, q_S_uint64, q_api_Errno, q_state_Reply, q_S_wset_Write, q_opd_Desc, q_wset_Write, q_S_tag_Field, q_tag_Field, c2]
    refine done_q hdom kk rfl ?_
    rw [hf, if_pos ⟨rfl, by omega, BitVec.not_lt.1 c2⟩]; rfl
/-- The first word as the document reckons it. -/
def fstR (d : De) (k : Nat) : BitVec 64 :=
  if 0 ≤ d.s ∧ d.s ≤ 255 ∧ 0 ≤ d.e ∧ d.e ≤ 255 ∧ d.q < 4294967296#64 ∧ k ≤ 600 then BitVec.ofInt 64 d.s + BitVec.ofInt 64 d.e * 256#64 + BitVec.ofNat 64 k * 65536#64 + d.q * 4294967296#64 else 0#64
theorem ref_First (d : De) (W : Value) (ws : List Wr) (g : AMem) (n : Nat) (hl : ws.length < 4611686018427387904) (hv : rdX g W ws) : FnC Try.prog f_reeveref22_First [vD d W] g n (fun _ => False) (U (fstR d ws.length)) g n := by
  refine fnC_of_rwp t_reeveref22_First hm rfl fun hdom => ?_
  obtain ⟨va, ve, rfl⟩ := hv.form
  by_cases c1 : d.s < 0
  · simp (maxSteps := 1000000) (disch := first | assumption | omega | rfl | decide | simp only [fitsR, Bool.and_self]) [↓rules, rules, ↓rulesDp, rulesDq, lit_u64, Int.ofNat_inj, stops, rc_reeveref22_First, q_int, q_bool, q_uint64, q_A4_uint64, q_api_Errno, q_reeveref11_Reply, q_S_reeveref22_Write, q_reeveref22_Desc, q_reeveref22_Write, c1]
    refine done_q hdom (by repeat first | exact Kept.refl hdom | refine Kept.new ?_ _ | refine Kept.drop ?_ (by omega) | refine Kept.put ?_ (by omega) (by omega) _ | refine Kept.skip ?_) ?_ ?_; · rfl
    rw [fstR, if_neg (by omega)]; rfl
  by_cases c2 : 255 < d.s
  · simp (maxSteps := 1000000) (disch := first | assumption | omega | rfl | decide | simp only [fitsR, Bool.and_self]) [↓rules, rules, ↓rulesDp, rulesDq, lit_u64, Int.ofNat_inj, stops, rc_reeveref22_First, q_int, q_bool, q_uint64, q_A4_uint64, q_api_Errno, q_reeveref11_Reply, q_S_reeveref22_Write, q_reeveref22_Desc, q_reeveref22_Write, c1, c2]
    refine done_q hdom (by repeat first | exact Kept.refl hdom | refine Kept.new ?_ _ | refine Kept.drop ?_ (by omega) | refine Kept.put ?_ (by omega) (by omega) _ | refine Kept.skip ?_) ?_ ?_; · rfl
    rw [fstR, if_neg (by omega)]; rfl
  by_cases c3 : d.e < 0
  · simp (maxSteps := 1000000) (disch := first | assumption | omega | rfl | decide | simp only [fitsR, Bool.and_self]) [↓rules, rules, ↓rulesDp, rulesDq, lit_u64, Int.ofNat_inj, stops, rc_reeveref22_First, q_int, q_bool, q_uint64, q_A4_uint64, q_api_Errno, q_reeveref11_Reply, q_S_reeveref22_Write, q_reeveref22_Desc, q_reeveref22_Write, c1, c2, c3]
    refine done_q hdom (by repeat first | exact Kept.refl hdom | refine Kept.new ?_ _ | refine Kept.drop ?_ (by omega) | refine Kept.put ?_ (by omega) (by omega) _ | refine Kept.skip ?_) ?_ ?_; · rfl
    rw [fstR, if_neg (by omega)]; rfl
  by_cases c4 : 255 < d.e
  · simp (maxSteps := 1000000) (disch := first | assumption | omega | rfl | decide | simp only [fitsR, Bool.and_self]) [↓rules, rules, ↓rulesDp, rulesDq, lit_u64, Int.ofNat_inj, stops, rc_reeveref22_First, q_int, q_bool, q_uint64, q_A4_uint64, q_api_Errno, q_reeveref11_Reply, q_S_reeveref22_Write, q_reeveref22_Desc, q_reeveref22_Write, c1, c2, c3, c4]
    refine done_q hdom (by repeat first | exact Kept.refl hdom | refine Kept.new ?_ _ | refine Kept.drop ?_ (by omega) | refine Kept.put ?_ (by omega) (by omega) _ | refine Kept.skip ?_) ?_ ?_; · rfl
    rw [fstR, if_neg (by omega)]; rfl
  by_cases c5 : 4294967296#64 ≤ d.q
  · simp (maxSteps := 1000000) (disch := first | assumption | omega | rfl | decide | simp only [fitsR, Bool.and_self]) [↓rules, rules, ↓rulesDp, rulesDq, lit_u64, Int.ofNat_inj, stops, rc_reeveref22_First, q_int, q_bool, q_uint64, q_A4_uint64, q_api_Errno, q_reeveref11_Reply, q_S_reeveref22_Write, q_reeveref22_Desc, q_reeveref22_Write, c1, c2, c3, c4, c5]
    refine done_q hdom (by repeat first | exact Kept.refl hdom | refine Kept.new ?_ _ | refine Kept.drop ?_ (by omega) | refine Kept.put ?_ (by omega) (by omega) _ | refine Kept.skip ?_) ?_ ?_; · rfl
    rw [fstR, if_neg (fun h => BitVec.not_le.2 h.2.2.2.2.1 c5)]; rfl
  by_cases c6 : 600 < (ws.length : Int)
  · simp (maxSteps := 1000000) (disch := first | assumption | omega | rfl | decide | simp only [fitsR, Bool.and_self]) [↓rules, rules, ↓rulesDp, rulesDq, lit_u64, Int.ofNat_inj, stops, rc_reeveref22_First, q_int, q_bool, q_uint64, q_A4_uint64, q_api_Errno, q_reeveref11_Reply, q_S_reeveref22_Write, q_reeveref22_Desc, q_reeveref22_Write, c1, c2, c3, c4, c5, c6]
    refine done_q hdom (by repeat first | exact Kept.refl hdom | refine Kept.new ?_ _ | refine Kept.drop ?_ (by omega) | refine Kept.put ?_ (by omega) (by omega) _ | refine Kept.skip ?_) ?_ ?_; · rfl
    rw [fstR, if_neg (by omega)]; rfl
  simp (maxSteps := 1000000) (disch := first | assumption | omega | rfl | decide | simp only [fitsR, Bool.and_self]) [↓rules, rules, ↓rulesDp, rulesDq, lit_u64, Int.ofNat_inj, stops, rc_reeveref22_First, q_int, q_bool, q_uint64, q_A4_uint64, q_api_Errno, q_reeveref11_Reply, q_S_reeveref22_Write, q_reeveref22_Desc, q_reeveref22_Write, c1, c2, c3, c4, c5, c6, conv_to_u64 tu_int tu_uint64, conv_to_u64 tu_api_Errno tu_uint64]
  refine done_q hdom (by repeat first | exact Kept.refl hdom | refine Kept.new ?_ _ | refine Kept.drop ?_ (by omega) | refine Kept.put ?_ (by omega) (by omega) _ | refine Kept.skip ?_) ?_ ?_; · rfl
  rw [fstR, if_pos ⟨by omega, by omega, by omega, by omega, BitVec.not_le.1 c5, by omega⟩]; rfl
end Go.Proofs.Ytafpgojoemcgnaa.F24

namespace Go.Proofs.Ytafpgojoemcgnaa.F24
open Go Go.Proofs Go.Proofs.YtafpgojoemcgnaaAbs
set_option maxHeartbeats 8000000
set_option maxRecDepth 100000
theorem ofInt_lt {x : Int} (h1 : -9223372036854775808 ≤ x) (h2 : x ≤ 9223372036854775807) : BitVec.ofInt 64 x ≤ 255#64 ↔ 0 ≤ x ∧ x ≤ 255 := by
  rw [BitVec.le_def, BitVec.toNat_ofInt, show (255#64).toNat = 255 from rfl]
  omega
theorem mxW_le {a b c : BitVec 64} : mxW a b ≤ c ↔ a ≤ c ∧ b ≤ c := by
  unfold mxW
  simp only [BitVec.le_def, BitVec.lt_def]
  split <;> omega
theorem puts_no {x y z q : BitVec 64} (h : 4294967296#64 ≤ q) : (putsF wordsF [x, y, z, q]).2 = false := by
  have hq : M 32 32 >>> (32 : Nat) < q := by
    rw [BitVec.lt_def, show ((32 : Int)) = ((32 : Nat) : Int) from rfl, M_high 32 32 (by omega)]
    have := BitVec.le_def.1 h
    simp at this ⊢
    omega
  rw [putsF, if_pos ⟨good_wordsF, rfl⟩]
  simp only [wordsF, putF]
  split
  · rfl
  · split
    · rfl
    · split
      · rfl
      · split
        · rfl
        · rename_i hn; exact absurd hq hn
theorem sum_nat {x y z q : BitVec 64} (hx : x.toNat < 256) (hy : y.toNat < 256) (hz : z.toNat < 65536) (hq : q.toNat < 4294967296) : (x + y * 256#64 + z * 65536#64 + q * 4294967296#64).toNat = x.toNat + y.toNat * 256 + z.toNat * 65536 + q.toNat * 4294967296 := by
  have h1 : (y * 256#64).toNat = y.toNat * 256 := by rw [BitVec.toNat_mul]; exact Nat.mod_eq_of_lt (show y.toNat * 256 < 18446744073709551616 by omega)
  have h2 : (z * 65536#64).toNat = z.toNat * 65536 := by rw [BitVec.toNat_mul]; exact Nat.mod_eq_of_lt (show z.toNat * 65536 < 18446744073709551616 by omega)
  have h3 : (q * 4294967296#64).toNat = q.toNat * 4294967296 := by rw [BitVec.toNat_mul]; exact Nat.mod_eq_of_lt (show q.toNat * 4294967296 < 18446744073709551616 by omega)
  have a1 : (x + y * 256#64).toNat = x.toNat + y.toNat * 256 := by rw [BitVec.toNat_add, h1]; exact Nat.mod_eq_of_lt (show x.toNat + y.toNat * 256 < 18446744073709551616 by omega)
  have a2 : (x + y * 256#64 + z * 65536#64).toNat = x.toNat + y.toNat * 256 + z.toNat * 65536 := by rw [BitVec.toNat_add, h2, a1]; exact Nat.mod_eq_of_lt (show x.toNat + y.toNat * 256 + z.toNat * 65536 < 18446744073709551616 by omega)
  rw [BitVec.toNat_add, h3, a2]; exact Nat.mod_eq_of_lt (show x.toNat + y.toNat * 256 + z.toNat * 65536 + q.toNat * 4294967296 < 18446744073709551616 by omega)
theorem puts_yes {x y z q : BitVec 64} (hx : x.toNat < 256) (hy : y.toNat < 256) (hz : z.toNat < 65536) (hq : q.toNat < 4294967296) : putsF wordsF [x, y, z, q] = (x + y * 256#64 + z * 65536#64 + q * 4294967296#64, true) := by
  obtain ⟨p1, q1⟩ := put_step (w := 0#64) (x := x) (p := 0) (q := 8) (by decide) (by omega) (by decide)
  obtain ⟨p2, q2⟩ := put_step (x := y) (p := 8) (q := 8) q1 (by omega) (by decide)
  obtain ⟨p3, q3⟩ := put_step (x := z) (p := 16) (q := 16) q2 (by omega) (by decide)
  obtain ⟨p4, q4⟩ := put_step (x := q) (p := 32) (q := 32) q3 (by omega) (by decide)
  rw [putsF, if_pos ⟨good_wordsF, rfl⟩]
  refine (putF_ok (p := 0) (q := 8) (by omega) (by decide)).trans ?_
  refine (putF_ok (p := 8) (q := 8) (by omega) (by decide)).trans ?_
  refine (putF_ok (p := 16) (q := 16) (by omega) (by decide)).trans ?_
  refine (putF_ok (p := 32) (q := 32) (by omega) (by decide)).trans ?_
  show (_, true) = (_, true)
  congr 1
  apply BitVec.eq_of_toNat_eq
  rw [p4, p3, p2, p1, sum_nat hx hy hz hq]
  simp only [BitVec.toNat_ofNat]
  omega
theorem fst_eq {d : De} {k : Nat} (hs : -9223372036854775808 ≤ d.s) (hs' : d.s ≤ 9223372036854775807) (he : -9223372036854775808 ≤ d.e) (he' : d.e ≤ 9223372036854775807) : fstP d k = fstR d k := by
  have hm : mxW (BitVec.ofInt 64 d.s) (BitVec.ofInt 64 d.e) ≤ 255#64 ↔ (0 ≤ d.s ∧ d.s ≤ 255) ∧ 0 ≤ d.e ∧ d.e ≤ 255 := by rw [mxW_le, ofInt_lt hs hs', ofInt_lt he he']
  unfold fstP fstR fstL
  by_cases c : 0 ≤ d.s ∧ d.s ≤ 255 ∧ 0 ≤ d.e ∧ d.e ≤ 255 ∧ d.q < 4294967296#64 ∧ k ≤ 600
  · obtain ⟨c1, c2, c3, c4, c5, c6⟩ := c
    have c5' : d.q.toNat < 4294967296 := BitVec.lt_def.1 c5
    have ea := ofInt_nat c1 (by omega)
    have eb := ofInt_nat c3 (by omega)
    rw [puts_yes (x := BitVec.ofInt 64 d.s) (y := BitVec.ofInt 64 d.e) (z := BitVec.ofNat 64 k) (q := d.q) (by omega) (by omega) (by rw [BitVec.toNat_ofNat]; omega) c5']
    rw [if_pos ⟨rfl, c6, hm.2 ⟨⟨c1, c2⟩, c3, c4⟩⟩, if_pos ⟨c1, c2, c3, c4, c5, c6⟩]
  · rw [if_neg c]
    by_cases c5 : 4294967296#64 ≤ d.q
    · rw [if_neg (fun h => by rw [puts_no c5] at h; cases h.1)]
    · refine if_neg fun h => ?_
      have h2 := hm.1 h.2.2
      exact c ⟨h2.1.1, h2.1.2, h2.2.1, h2.2.2, BitVec.not_le.1 c5, h.2.1⟩
end Go.Proofs.Ytafpgojoemcgnaa.F24

namespace Go.Proofs.Ytafpgojoemcgnaa.F24
open Go Go.Proofs Go.Proofs.YtafpgojoemcgnaaAbs
set_option maxHeartbeats 8000000
set_option maxRecDepth 100000
theorem nR_self (xo yo : Operand) (e n : Int) (w : BitVec 64) : aBin Try.prog .neq T_reeveref11_Reply xo yo (.agg #[.int .i64 e, U w, .int .i64 n]) (.agg #[.int .i64 e, U w, .int .i64 n]) = some (.bool false) := by
  have : cellsEq [.int .i64 e, U w, .int .i64 n] [.int .i64 e, U w, .int .i64 n] = true := by simp [cellsEq_cons, cellsEq_nil, cellEq_int, cellEq_U]
  have h := bin_neq_agg (xo := xo) (yo := yo) te_reeveref11_Reply ta_reeveref11_Reply (xs := [.int .i64 e, U w, .int .i64 n]) (ys := [.int .i64 e, U w, .int .i64 n]) rfl rfl
  rw [this] at h; exact h
theorem nL_self (xo yo : Operand) (a b c d : BitVec 64) : aBin Try.prog .neq T_A4_uint64 xo yo (.agg #[U a, U b, U c, U d]) (.agg #[U a, U b, U c, U d]) = some (.bool false) := by
  have : cellsEq [U a, U b, U c, U d] [U a, U b, U c, U d] = true := by simp [cellsEq_cons, cellsEq_nil, cellEq_U]
  have h := bin_neq_agg (xo := xo) (yo := yo) te_A4_uint64 ta_A4_uint64 (xs := [U a, U b, U c, U d]) (ys := [U a, U b, U c, U d]) rfl rfl
  rw [this] at h; exact h
theorem nW_self (xo yo : Operand) (w : Wr) : aBin Try.prog .neq T_reeveref22_Write xo yo (.agg #[.int .i64 w.p, U w.v]) (.agg #[.int .i64 w.p, U w.v]) = some (.bool false) := by
  have : cellsEq [.int .i64 w.p, U w.v] [.int .i64 w.p, U w.v] = true := by simp [cellsEq_cons, cellsEq_nil, cellEq_int, cellEq_U]
  have h := bin_neq_agg (xo := xo) (yo := yo) te_reeveref22_Write ta_reeveref22_Write (xs := [.int .i64 w.p, U w.v]) (ys := [.int .i64 w.p, U w.v]) rfl rfl
  rw [this] at h; exact h
theorem sameD_self (d : De) (V W : Value) (ws : List Wr) (g : AMem) (n : Nat) (hl : ws.length < 4611686018427387904) (hv : rdX g V ws) (hw : rdX g W ws) : FnC Try.prog f_reevelaw24_sameD [vD d V, vD d W] g n (fun _ => False) (.bool true) g n := by
  refine fnC_of_rwp t_reevelaw24_sameD hm rfl fun hdom => ?_
  obtain ⟨va, ve, rfl⟩ := hv.form
  obtain ⟨wa, we, rfl⟩ := hw.form
  simp (maxSteps := 1000000) (disch := first | assumption | omega | rfl | decide | simp only [fitsR, Bool.and_self]) [↓rules, rules, ↓rulesDp, rulesDq, lit_u64, Int.ofNat_inj, stops, rc_reevelaw24_sameD, q_int, q_bool, q_uint64, q_A4_uint64, q_api_Errno, q_reeveref11_Reply, q_S_reeveref22_Write, q_reeveref22_Desc, q_reeveref22_Write, nR_self, nL_self]
  generalize hG : gset _ _ _ = G
  have kn : Kept g n G (n + 1 + 1) := by rw [← hG]; exact (by repeat first | exact Kept.refl hdom | refine Kept.new ?_ _ | refine Kept.drop ?_ (by omega) | refine Kept.put ?_ (by omega) (by omega) _ | refine Kept.skip ?_)
  have p0 : G n = some (.row (cD d (.slice va ws.length ve)) true) := by rw [← hG]; simp [gset]
  have p1 : G (n + 1) = some (.row (cD d (.slice wa ws.length we)) true) := by rw [← hG]; simp [gset]
  have hv1 := hv.ext (kn.ext hdom)
  have hw1 := hw.ext (kn.ext hdom)
  clear hG
  refine rwp_loop (fun k l g' n' => ∃ i, k = ws.length - i ∧ i ≤ ws.length ∧ g' = G ∧ n' = n + 1 + 1 ∧ l = [(2, .pointer (some ⟨n, 0, none⟩)), (3, .pointer (some ⟨n + 1, 0, none⟩)), (5, .int .i64 i)]) ?_ (k := ws.length) ?_
  · rintro k l g' n' ⟨i, rfl, hi, rfl, rfl, rfl⟩
    simp (maxSteps := 1000000) (disch := first | assumption | omega | rfl | decide | simp only [fitsR, Bool.and_self]) [↓rules, rules, ↓rulesDp, rulesDq, lit_u64, Int.ofNat_inj, stops, rc_reevelaw24_sameDl0, q_int, q_bool, q_uint64, q_A4_uint64, q_api_Errno, q_reeveref11_Reply, q_S_reeveref22_Write, q_reeveref22_Desc, q_reeveref22_Write, p0, p1]
    refine rcond_dec (fun hlt => ?_) (fun hlt => ?_)
    · have hlt : i < ws.length := by omega
      obtain ⟨b1, o1, h1, hb1, h2, h3⟩ := Rd.many (enc := cW) (e := 2) (fun _ => rfl) hv1 hlt
      obtain ⟨b2, o2, h4, hb2, h5, h6⟩ := Rd.many (enc := cW) (e := 2) (fun _ => rfl) hw1 hlt
      have e1 := h2 g' (Ext.refl _) Try.prog _ ta_reeveref22_Write ts_reeveref22_Write
      have e2 := h5 g' (Ext.refl _) Try.prog _ ta_reeveref22_Write ts_reeveref22_Write
      simp only [Value.slice.injEq] at h1 h4
      obtain ⟨rfl, _, rfl⟩ := h1
      obtain ⟨rfl, _, rfl⟩ := h4
      simp only [cW] at e1 e2
      simp (maxSteps := 1000000) (disch := first | assumption | omega | rfl | decide | simp only [fitsR, Bool.and_self]) [↓rules, rules, ↓rulesDp, rulesDq, lit_u64, Int.ofNat_inj, stops, q_int, q_bool, q_uint64, q_A4_uint64, q_api_Errno, q_reeveref11_Reply, q_S_reeveref22_Write, q_reeveref22_Desc, q_reeveref22_Write, p0, p1, hlt, e1, e2, nW_self]
      exact ⟨ws.length - (i + 1), by omega, i + 1, rfl, by omega, wrap_i64 (by omega) (by omega)⟩
    · simp (maxSteps := 1000000) (disch := first | assumption | omega | rfl | decide | simp only [fitsR, Bool.and_self]) [↓rules, rules, ↓rulesDp, rulesDq, lit_u64, Int.ofNat_inj, stops]
      exact done_q hdom kn rfl rfl
  · exact ⟨0, by simp, by simp, rfl, rfl, by rfl⟩
end Go.Proofs.Ytafpgojoemcgnaa.F24

namespace Go.Proofs.Ytafpgojoemcgnaa.F24
open Go Go.Proofs Go.Proofs.YtafpgojoemcgnaaAbs
set_option maxHeartbeats 8000000
set_option maxRecDepth 100000
theorem Gw.put {m n x : Nat} {g : AMem} {v : Value} {ws : List Wr} {o : Option AObj} (h : Gw m g v ws) (hx : x < m) (hn : n ≤ m) : Gw n (gset g x o) v ws := by
  rcases h with h | ⟨b, hb, h1, h2⟩
  · exact Or.inl h
  · exact Or.inr ⟨b, by omega, h1, by rw [gset, if_neg (by omega)]; exact h2⟩
theorem descOf (d : De) (W : Value) (ws : List Wr) (g : AMem) (n : Nat) (hdom : ∀ i, g i ≠ none → i < n) (hl : ws.length ≤ 100000) (hv : rdX g W ws) :
    FnS Try.prog f_reevelaw24_descOf [vD d W] g n (fun _ => False) fun r g' n' => ∃ V, r = vD d V ∧ Gw n g' V ws ∧ Kept g n g' n' := by
  refine fnS_of_rwp t_reevelaw24_descOf hm rfl hdom ?_
  obtain ⟨va, ve, rfl⟩ := hv.form
  simp (maxSteps := 1000000) (disch := first | assumption | omega | rfl | decide | simp only [fitsR, Bool.and_self]) [↓rules, rules, ↓rulesDp, rulesDq, lit_u64, Int.ofNat_inj, stops, rc_reevelaw24_descOf, q_int, q_uint64, q_A4_uint64, q_api_Errno, q_state_Reply, q_S_wset_Write, q_opd_Desc, q_wset_Write, q_reeveref11_Reply, q_S_reeveref22_Write, q_reeveref22_Desc, q_reeveref22_Write]
  have k0 : Kept g n (gset (gset g n (some (.row (cD d (.slice va ws.length ve)) true))) (n + 1) (some (.row [.int .i64 0, U 0#64, U 0#64, U 0#64, U 0#64, U 0#64, .int .i64 0, U 0#64, .int .i64 0, .slice none 0 0] true))) (n + 1 + 1) := (by repeat first | exact Kept.refl hdom | refine Kept.new ?_ _ | refine Kept.drop ?_ (by omega) | refine Kept.put ?_ (by omega) (by omega) _ | refine Kept.skip ?_)
  refine dcall_spec k0.dom (ownW _ ws _ _ k0.dom hl (hv.ext (k0.ext hdom))) (fun _ _ _ h => h.2) rfl (by simp (maxSteps := 1000000) (disch := first | assumption | omega | rfl | decide | simp only [fitsR, Bool.and_self]) [↓rules, rules, ↓rulesDp, rulesDq, lit_u64, Int.ofNat_inj]) fun V g1 n1 ⟨r1, k1⟩ => ?_
  have r0 : g1 n = some (.row (cD d (.slice va ws.length ve)) true) := by rw [k1.same n (by omega)]; simp [gset]
  have rr : g1 (n + 1) = some (.row [.int .i64 0, U 0#64, U 0#64, U 0#64, U 0#64, U 0#64, .int .i64 0, U 0#64, .int .i64 0, .slice none 0 0] true) := by rw [k1.same (n + 1) (by omega)]; simp [gset]
  obtain ⟨xa, xe, rfl⟩ := r1.rd.form
  have l1 := k1.le
  simp (maxSteps := 1000000) (disch := first | assumption | omega | rfl | decide | simp only [fitsR, Bool.and_self]) [↓rules, rules, ↓rulesDp, rulesDq, lit_u64, Int.ofNat_inj, stops, q_int, q_uint64, q_A4_uint64, q_api_Errno, q_state_Reply, q_S_wset_Write, q_opd_Desc, q_wset_Write, q_reeveref11_Reply, q_S_reeveref22_Write, q_reeveref22_Desc, q_reeveref22_Write, r0, rr]
  refine sdone_ret (v := vD d (.slice xa ws.length xe)) (by simp (maxSteps := 1000000) (disch := first | assumption | omega | rfl | decide | simp only [fitsR, Bool.and_self]) [↓rules, rules, ↓rulesDp, rulesDq, lit_u64, Int.ofNat_inj, stops, aResults, aRes, q_int, q_uint64, q_A4_uint64, q_api_Errno, q_state_Reply, q_S_wset_Write, q_opd_Desc, q_wset_Write, q_reeveref11_Reply, q_S_reeveref22_Write, q_reeveref22_Desc, q_reeveref22_Write]) ⟨_, rfl, r1.put (by omega) (by omega), ?_⟩
  exact (by repeat first | exact (k0.trans k1) | refine Kept.new ?_ _ | refine Kept.drop ?_ (by omega) | refine Kept.put ?_ (by omega) (by omega) _ | refine Kept.skip ?_)
end Go.Proofs.Ytafpgojoemcgnaa.F24

namespace Go.Proofs.Ytafpgojoemcgnaa.F24
open Go Go.Proofs Go.Proofs.YtafpgojoemcgnaaAbs
set_option maxHeartbeats 8000000
set_option maxRecDepth 100000
def encP (w : Wr) : List (BitVec 64) := [BitVec.ofInt 64 w.p, w.v]
def headP (d : De) (k : Nat) : List (BitVec 64) := [fstP d k, d.l0, d.l1, d.l2, d.l3, d.w, BitVec.ofInt 64 d.n, 0#64]
def putL (d : De) (ws : List Wr) : List (BitVec 64) := headP d ws.length ++ ws.flatMap encP ++ List.replicate (1200 - 2 * ws.length) 0#64
/-- What opd.Put returns. -/
def PutR (n : Nat) (g : AMem) (v : Value) (ok : Bool) (l : List (BitVec 64)) : Prop := (ok = false ∧ v = .slice none 0 0) ∨ (ok = true ∧ ∃ b, n ≤ b ∧ v = .slice (some ⟨b, 0, none⟩) 1208 1 ∧ g b = some (.row (l.map U) true))
theorem goodW_len {a b c : Int} {ws : List Wr} (h : goodW a b c ws = true) : goodG a b c = true ∧ ws.length ≤ 600 := by
  rw [goodW, Bool.and_eq_true, Bool.and_eq_true] at h
  exact ⟨h.1.1, by simpa using h.1.2⟩
theorem goodD_W {a b c : Int} {d : De} {ws : List Wr} (h : goodD a b c d ws = true) : goodW a b c ws = true := by
  rw [goodD, Bool.and_eq_true, Bool.and_eq_true] at h
  exact h.1.1
theorem splice_at (A C : List Value) (z x : Value) : splice (A ++ z :: C) A.length [x] = A ++ x :: C := by
  simp [splice, List.drop_append]
theorem splice_two {A C : List Value} {z x y : Value} {m : Nat} (hm : A.length = m) : splice (splice (A ++ z :: z :: C) m [x]) (m + 1) [y] = A ++ x :: y :: C := by
  subst hm
  rw [splice_at]
  have := splice_at (A ++ [x]) C z y
  simpa using this
theorem flat_length2 (ws : List Wr) : (ws.flatMap encP).length = 2 * ws.length := by
  induction ws with
  | nil => rfl
  | cons w ws ih => rw [List.flatMap_cons, List.length_append, ih]; simp only [encP, List.length_cons, List.length_nil]; omega
def rowP (d : De) (ws : List Wr) (i : Nat) : List Value := (headP d ws.length ++ (ws.take i).flatMap encP).map U ++ List.replicate (1200 - 2 * i) (U 0#64)
theorem rowP_step {d : De} {ws : List Wr} {i : Nat} (h : i < ws.length) (hl : ws.length ≤ 600) : splice (splice (rowP d ws i) (8 + 2 * i) [U (BitVec.ofInt 64 ws[i].p)]) (8 + 2 * i + 1) [U ws[i].v] = rowP d ws (i + 1) := by
  have ht : ws.take (i + 1) = ws.take i ++ [ws[i]] := by rw [List.take_add_one, List.getElem?_eq_getElem h]; rfl
  have htl : (ws.take i).length = i := by rw [List.length_take, Nat.min_eq_left (by omega)]
  have hf : ((ws.take i).flatMap encP).length = 2 * i := by rw [flat_length2, htl]
  have e : 1200 - 2 * i = (1200 - 2 * (i + 1)) + 1 + 1 := by omega
  unfold rowP
  rw [e, List.replicate_succ, List.replicate_succ, splice_two (by rw [List.length_map, List.length_append, hf]; rfl), ht, List.flatMap_append]
  simp [encP]
theorem rowP_len {d : De} {ws : List Wr} {i : Nat} (h : i ≤ ws.length) (hl : ws.length ≤ 600) : (rowP d ws i).length = 1208 := by
  have htl : (ws.take i).length = i := by rw [List.length_take, Nat.min_eq_left (by omega)]
  have hf : ((ws.take i).flatMap encP).length = 2 * i := by rw [flat_length2, htl]
  rw [rowP, List.length_append, List.length_map, List.length_append, hf, List.length_replicate]
  simp only [headP, List.length_cons, List.length_nil]
  omega
theorem rowP_end {d : De} {ws : List Wr} : rowP d ws ws.length = (putL d ws).map U := by
  rw [rowP, putL, List.take_length, List.map_append, List.map_append, List.map_append, List.map_replicate]
theorem opd_Put (a b c : Int) (d : De) (W : Value) (ws : List Wr) (g : AMem) (n : Nat) (hdom : ∀ i, g i ≠ none → i < n) (hl : ws.length < 4611686018427387904) (hv : rdX g W ws) :
    FnS Try.prog f_opd_Put [gv a b c, vD d W] g n (fun _ => False) fun r g' n' => PutR n g' r (goodD a b c d ws) (putL d ws) ∧ Kept g n g' n' := by
  refine fnS_of_rwp t_opd_Put hm rfl hdom ?_
  obtain ⟨va, ve, rfl⟩ := hv.form
  simp (maxSteps := 1000000) (disch := first | assumption | omega | rfl | decide | simp only [fitsR, Bool.and_self]) [↓rules, rules, ↓rulesDp, rulesDq, lit_u64, Int.ofNat_inj, stops, rc_opd_Put, q_int, q_bool, q_uint64, q_A4_uint64, q_S_uint64, q_geo_Geo, q_api_Errno, q_state_Reply, q_S_wset_Write, q_opd_Desc, q_wset_Write]
  have k0 : Kept g n (gset (gset g n (some (.row [.int .i64 a, .int .i64 b, .int .i64 c] true))) (n + 1) (some (.row (cD d (.slice va ws.length ve)) true))) (n + 1 + 1) := (by repeat first | exact Kept.refl hdom | refine Kept.new ?_ _ | refine Kept.drop ?_ (by omega) | refine Kept.put ?_ (by omega) (by omega) _ | refine Kept.skip ?_)
  have hv0 := hv.ext (k0.ext hdom)
  refine rcall_quiet rfl (opd_Good a b c d _ ws _ _ hl hv0) ?_
  cases hg : goodD a b c d ws
  · simp (maxSteps := 1000000) (disch := first | assumption | omega | rfl | decide | simp only [fitsR, Bool.and_self]) [↓rules, rules, ↓rulesDp, rulesDq, lit_u64, Int.ofNat_inj, stops, q_int, q_bool, q_uint64, q_A4_uint64, q_S_uint64, q_geo_Geo, q_api_Errno, q_state_Reply, q_S_wset_Write, q_opd_Desc, q_wset_Write]
    exact sdone_ret rfl ⟨Or.inl ⟨rfl, rfl⟩, k0⟩
  simp (maxSteps := 1000000) (disch := first | assumption | omega | rfl | decide | simp only [fitsR, Bool.and_self]) [↓rules, rules, ↓rulesDp, rulesDq, lit_u64, Int.ofNat_inj, stops, q_int, q_bool, q_uint64, q_A4_uint64, q_S_uint64, q_geo_Geo, q_api_Errno, q_state_Reply, q_S_wset_Write, q_opd_Desc, q_wset_Write]
  refine rcall_quiet rfl (DescG _ _ _ _ _ _) ?_
  have hgg := goodW_len (goodD_W hg)
  have ok := goodG_iff.1 hgg.1
  obtain ⟨K, hK⟩ : ∃ K : Nat, K = 1208 := ⟨_, rfl⟩
  rw [show descG a b c 0 = (16, (K : Int)) by rw [descG, if_pos ⟨hgg.1, by omega, by omega⟩, hK]; rfl]
  have l1 : (K : Int) ≤ 70368744177664 := by omega
  have l2 : 8 * K ≤ 70368744177664 := by omega
  simp (maxSteps := 1000000) (disch := first | assumption | omega | rfl | decide | simp only [fitsR, Bool.and_self]) [↓rules, rules, ↓rulesDp, rulesDq, lit_u64, Int.ofNat_inj, stops, q_int, q_bool, q_uint64, q_A4_uint64, q_S_uint64, q_geo_Geo, q_api_Errno, q_state_Reply, q_S_wset_Write, q_opd_Desc, q_wset_Write, l1, l2]
  generalize hG : gset _ _ _ = G
  generalize hcs : List.replicate K (U 0#64) = cs at hG
  have hlen : cs.length = 1208 := by rw [← hcs, List.length_replicate, hK]
  have kb : Kept g n G (n + 1 + 1 + 1) := by rw [← hG]; exact (by repeat first | exact Kept.refl hdom | refine Kept.new ?_ _ | refine Kept.drop ?_ (by omega) | refine Kept.put ?_ (by omega) (by omega) _ | refine Kept.skip ?_)
  have p1 : G (n + 1) = some (.row (cD d (.slice va ws.length ve)) true) := by rw [← hG]; simp [gset]
  have p2 : G (n + 1 + 1) = some (.row cs true) := by rw [← hG]; simp [gset]
  subst hK
  refine rcall_quiet rfl (opd_First d _ ws _ _ hl (hv.ext (kb.ext hdom))) ?_
  have n1 : (splice cs 0 [U (fstP d ws.length)]).length = 1208 := by rw [splice_length (by simp [hlen])]; exact hlen
  have n2 : (splice (splice cs 0 [U (fstP d ws.length)]) 1 [U d.l0, U d.l1, U d.l2, U d.l3]).length = 1208 := by rw [splice_length (by simp [n1])]; exact n1
  have n3 : (splice (splice (splice cs 0 [U (fstP d ws.length)]) 1 [U d.l0, U d.l1, U d.l2, U d.l3]) 5 [U d.w]).length = 1208 := by rw [splice_length (by simp [n2])]; exact n2
  simp (maxSteps := 1000000) (disch := first | assumption | omega | rfl | decide | simp only [fitsR, Bool.and_self]) [↓rules, rules, ↓rulesDp, rulesDq, lit_u64, Int.ofNat_inj, stops, q_int, q_bool, q_uint64, q_A4_uint64, q_S_uint64, q_geo_Geo, q_api_Errno, q_state_Reply, q_S_wset_Write, q_opd_Desc, q_wset_Write, p1, p2, hlen, n1, n2, n3, conv_to_u64 tu_int tu_uint64]
  refine ⟨by omega, ?_⟩
  generalize hc4 : splice _ 6 [U (BitVec.ofInt 64 d.n)] = c4
  have q4 : c4 = rowP d ws 0 := by
    rw [← hc4, ← hcs]
    have e : List.replicate 1208 (U 0#64) = U 0#64 :: U 0#64 :: U 0#64 :: U 0#64 :: U 0#64 :: U 0#64 :: U 0#64 :: U 0#64 :: List.replicate 1200 (U 0#64) := by
      rw [show (1208 : Nat) = 1200 + 1 + 1 + 1 + 1 + 1 + 1 + 1 + 1 from rfl]; simp only [List.replicate_succ (n := 1200), List.replicate_succ (n := 1200 + 1), List.replicate_succ (n := 1200 + 1 + 1), List.replicate_succ (n := 1200 + 1 + 1 + 1), List.replicate_succ (n := 1200 + 1 + 1 + 1 + 1), List.replicate_succ (n := 1200 + 1 + 1 + 1 + 1 + 1), List.replicate_succ (n := 1200 + 1 + 1 + 1 + 1 + 1 + 1), List.replicate_succ (n := 1200 + 1 + 1 + 1 + 1 + 1 + 1 + 1)]
    rw [e, rowP, Nat.mul_zero, Nat.sub_zero]
    generalize List.replicate 1200 (U 0#64) = R
    simp [splice, headP]
  clear hc4 n1 n2 n3
  subst q4
  refine rwp_loop (fun k l g' n' => ∃ i, k = ws.length - i ∧ i ≤ ws.length ∧ Kept g n g' n' ∧ n + 1 + 1 < n' ∧ g' (n + 1 + 1) = some (.row (rowP d ws i) true) ∧ l = [(7, .slice (some ⟨n + 1 + 1, 0, none⟩) 1208 1), (42, .slice va ws.length ve), (43, .int .i64 ws.length), (44, .int .i64 i)]) ?_ (k := ws.length) ?_
  · rintro k l g' n' ⟨i, rfl, hi, hk, hn2, hrow, rfl⟩
    simp (maxSteps := 1000000) (disch := first | assumption | omega | rfl | decide | simp only [fitsR, Bool.and_self]) [↓rules, rules, ↓rulesDp, rulesDq, lit_u64, Int.ofNat_inj, stops, rc_opd_Putl0]
    refine rcond_dec (fun hlt => ?_) (fun hlt => ?_)
    · have hlt : i < ws.length := by omega
      obtain ⟨b1, o1, h1, hb1, h2, h3⟩ := Rd.many (enc := cW) (e := 2) (fun _ => rfl) hv hlt
      have e1 := h2 g' (hk.ext hdom) Try.prog _ ta_wset_Write ts_wset_Write
      simp only [Value.slice.injEq] at h1
      obtain ⟨rfl, _, rfl⟩ := h1
      simp only [cW] at e1
      have w1 : IntKind.i64.wrap (2 * (i : Int)) = 2 * i := wrap_i64 (by omega) (by omega)
      obtain ⟨j, hj⟩ : ∃ j : Nat, j = 8 + 2 * i := ⟨_, rfl⟩
      obtain ⟨j1, hj1⟩ : ∃ j1 : Nat, j1 = j + 1 := ⟨_, rfl⟩
      have w2 : IntKind.i64.wrap (8 + 2 * (i : Int)) = j := by rw [hj]; exact (wrap_i64 (by omega) (by omega)).trans (by omega)
      have w3 : IntKind.i64.wrap ((j : Int) + 1) = j1 := by rw [hj1]; exact wrap_i64 (by omega) (by omega)
      have hne : n + 1 + 1 ≠ n' := by omega
      have hc1 := rowP_len (d := d) hi hgg.2
      have hb1' : (j : Int) < 1208 := by omega
      have hb2' : (j1 : Int) < 1208 := by omega
      have hb3' : j < 1208 := by omega
      have hb4' : j1 < 1208 := by omega
      have hb5' : j + 1 ≤ 1208 := by omega
      have hb6' : j1 + 1 ≤ 1208 := by omega
      have hst := rowP_step (d := d) hlt hgg.2
      rw [← hj, ← hj1] at hst
      generalize hr0 : rowP d ws i = r0 at hrow hc1 hst
      have hc2 : (splice r0 j [U (BitVec.ofInt 64 ws[i].p)]).length = 1208 := by rw [splice_length (by simp [hc1]; omega)]; exact hc1
      simp (maxSteps := 1000000) (disch := first | assumption | omega | rfl | decide | simp only [fitsR, Bool.and_self]) [↓rules, rules, ↓rulesDp, rulesDq, lit_u64, Int.ofNat_inj, stops, q_int, q_bool, q_uint64, q_A4_uint64, q_S_uint64, q_geo_Geo, q_api_Errno, q_state_Reply, q_S_wset_Write, q_opd_Desc, q_wset_Write, hlt, e1, w1, w2, w3, hrow, hne, hb1', hb2', hb3', hb4', hb5', hb6', hc1, hc2, hst, conv_to_u64 tu_int tu_uint64]
      exact ⟨hk.le, by omega, ws.length - (i + 1), by omega, i + 1, rfl, by omega, Kept.put (hk.new _) (by omega) (by omega) _, by omega, rfl, wrap_i64 (by omega) (by omega)⟩
    · have : i = ws.length := by omega
      subst this
      simp (maxSteps := 1000000) (disch := first | assumption | omega | rfl | decide | simp only [fitsR, Bool.and_self]) [↓rules, rules, ↓rulesDp, rulesDq, lit_u64, Int.ofNat_inj, stops]
      refine sdone_ret rfl ⟨Or.inr ⟨rfl, n + 1 + 1, by omega, rfl, ?_⟩, hk⟩
      rw [hrow, rowP_end]
  · refine ⟨0, by simp, by simp, Kept.put kb (by omega) (by omega) _, by omega, ?_, by rfl⟩
    simp [gset]
end Go.Proofs.Ytafpgojoemcgnaa.F24

namespace Go.Proofs.Ytafpgojoemcgnaa.F24
open Go Go.Proofs Go.Proofs.YtafpgojoemcgnaaAbs
set_option maxHeartbeats 8000000
set_option maxRecDepth 100000
theorem goodD_fst {a b c : Int} {d : De} {ws : List Wr} (h : goodD a b c d ws = true) : fstR d ws.length = fstP d ws.length := by
  have h1 : 0 ≤ d.s ∧ d.s ≤ 4 := by
    refine Classical.byContradiction fun hn => ?_
    rw [goodD_status (by omega)] at h; cases h
  rw [goodD, Bool.and_eq_true, Bool.and_eq_true] at h
  have h2 := of_decide_eq_true h.1.2
  exact (fst_eq (by omega) (by omega) (by omega) (by omega)).symm
theorem ref_PutDesc (a b c : Int) (d : De) (W : Value) (ws : List Wr) (g : AMem) (n : Nat) (hdom : ∀ i, g i ≠ none → i < n) (hl : ws.length < 4611686018427387904) (hv : rdX g W ws) :
    FnS Try.prog f_reeveref22_PutDesc [gv a b c, vD d W] g n (fun _ => False) fun r g' n' => PutR n g' r (goodD a b c d ws) (putL d ws) ∧ Kept g n g' n' := by
  refine fnS_of_rwp t_reeveref22_PutDesc hm rfl hdom ?_
  obtain ⟨va, ve, rfl⟩ := hv.form
  simp (maxSteps := 1000000) (disch := first | assumption | omega | rfl | decide | simp only [fitsR, Bool.and_self]) [↓rules, rules, ↓rulesDp, rulesDq, lit_u64, Int.ofNat_inj, stops, rc_reeveref22_PutDesc, q_int, q_bool, q_uint64, q_A4_uint64, q_S_uint64, q_api_Errno, q_reeveref11_Reply, q_S_reeveref22_Write, q_reeveref22_Desc, q_reeveref1_Geo, q_reeveref22_Write]
  have k0 : Kept g n (gset (gset g n (some (.row [.int .i64 a, .int .i64 b, .int .i64 c] true))) (n + 1) (some (.row (cD d (.slice va ws.length ve)) true))) (n + 1 + 1) := (by repeat first | exact Kept.refl hdom | refine Kept.new ?_ _ | refine Kept.drop ?_ (by omega) | refine Kept.put ?_ (by omega) (by omega) _ | refine Kept.skip ?_)
  have hv0 := hv.ext (k0.ext hdom)
  refine rcall_quiet rfl (GoodDesc a b c d _ ws _ _ hl hv0) ?_
  cases hg : goodD a b c d ws
  · simp (maxSteps := 1000000) (disch := first | assumption | omega | rfl | decide | simp only [fitsR, Bool.and_self]) [↓rules, rules, ↓rulesDp, rulesDq, lit_u64, Int.ofNat_inj, stops, q_int, q_bool, q_uint64, q_A4_uint64, q_S_uint64, q_api_Errno, q_reeveref11_Reply, q_S_reeveref22_Write, q_reeveref22_Desc, q_reeveref1_Geo, q_reeveref22_Write]
    exact sdone_ret rfl ⟨Or.inl ⟨rfl, rfl⟩, k0⟩
  simp (maxSteps := 1000000) (disch := first | assumption | omega | rfl | decide | simp only [fitsR, Bool.and_self]) [↓rules, rules, ↓rulesDp, rulesDq, lit_u64, Int.ofNat_inj, stops, q_int, q_bool, q_uint64, q_A4_uint64, q_S_uint64, q_api_Errno, q_reeveref11_Reply, q_S_reeveref22_Write, q_reeveref22_Desc, q_reeveref1_Geo, q_reeveref22_Write]
  refine rcall_quiet rfl (DescR _ _ _ _ _ _) ?_
  have hgg := goodW_len (goodD_W hg)
  have ok := goodG_iff.1 hgg.1
  obtain ⟨K, hK⟩ : ∃ K : Nat, K = 1208 := ⟨_, rfl⟩
  rw [show descG a b c 0 = (16, (K : Int)) by rw [descG, if_pos ⟨hgg.1, by omega, by omega⟩, hK]; rfl]
  have l1 : (K : Int) ≤ 70368744177664 := by omega
  have l2 : 8 * K ≤ 70368744177664 := by omega
  simp (maxSteps := 1000000) (disch := first | assumption | omega | rfl | decide | simp only [fitsR, Bool.and_self]) [↓rules, rules, ↓rulesDp, rulesDq, lit_u64, Int.ofNat_inj, stops, q_int, q_bool, q_uint64, q_A4_uint64, q_S_uint64, q_api_Errno, q_reeveref11_Reply, q_S_reeveref22_Write, q_reeveref22_Desc, q_reeveref1_Geo, q_reeveref22_Write, l1, l2]
  generalize hG : gset _ _ _ = G
  generalize hcs : List.replicate K (U 0#64) = cs at hG
  have hlen : cs.length = 1208 := by rw [← hcs, List.length_replicate, hK]
  have kb : Kept g n G (n + 1 + 1 + 1) := by rw [← hG]; exact (by repeat first | exact Kept.refl hdom | refine Kept.new ?_ _ | refine Kept.drop ?_ (by omega) | refine Kept.put ?_ (by omega) (by omega) _ | refine Kept.skip ?_)
  have p1 : G (n + 1) = some (.row (cD d (.slice va ws.length ve)) true) := by rw [← hG]; simp [gset]
  have p2 : G (n + 1 + 1) = some (.row cs true) := by rw [← hG]; simp [gset]
  subst hK
  refine dcall_quiet kb.dom rfl (ref_First d _ ws _ _ hl (hv.ext (kb.ext hdom))) (by simp (maxSteps := 1000000) (disch := first | assumption | omega | rfl | decide | simp only [fitsR, Bool.and_self]) [↓rules, rules, ↓rulesDp, rulesDq, lit_u64, Int.ofNat_inj]) ?_
  rw [goodD_fst hg]
  have m0 : (splice cs 0 [U (fstP d ws.length)]).length = 1208 := by rw [splice_length (by simp [hlen])]; exact hlen
  have m1 : (splice (splice cs 0 [U (fstP d ws.length)]) 1 [U d.l0]).length = 1208 := by rw [splice_length (by simp [m0])]; exact m0
  have m2 : (splice (splice (splice cs 0 [U (fstP d ws.length)]) 1 [U d.l0]) 2 [U d.l1]).length = 1208 := by rw [splice_length (by simp [m1])]; exact m1
  have m3 : (splice (splice (splice (splice cs 0 [U (fstP d ws.length)]) 1 [U d.l0]) 2 [U d.l1]) 3 [U d.l2]).length = 1208 := by rw [splice_length (by simp [m2])]; exact m2
  have m4 : (splice (splice (splice (splice (splice cs 0 [U (fstP d ws.length)]) 1 [U d.l0]) 2 [U d.l1]) 3 [U d.l2]) 4 [U d.l3]).length = 1208 := by rw [splice_length (by simp [m3])]; exact m3
  have m5 : (splice (splice (splice (splice (splice (splice cs 0 [U (fstP d ws.length)]) 1 [U d.l0]) 2 [U d.l1]) 3 [U d.l2]) 4 [U d.l3]) 5 [U d.w]).length = 1208 := by rw [splice_length (by simp [m4])]; exact m4
  simp (maxSteps := 1000000) (disch := first | assumption | omega | rfl | decide | simp only [fitsR, Bool.and_self]) [↓rules, rules, ↓rulesDp, rulesDq, lit_u64, Int.ofNat_inj, stops, q_int, q_bool, q_uint64, q_A4_uint64, q_S_uint64, q_api_Errno, q_reeveref11_Reply, q_S_reeveref22_Write, q_reeveref22_Desc, q_reeveref1_Geo, q_reeveref22_Write, p1, p2, hlen, m0, m1, m2, m3, m4, m5, conv_to_u64 tu_int tu_uint64]
  generalize hc4 : splice _ 6 [U (BitVec.ofInt 64 d.n)] = c4
  have q4 : c4 = rowP d ws 0 := by
    rw [← hc4, ← hcs]
    have e : List.replicate 1208 (U 0#64) = U 0#64 :: U 0#64 :: U 0#64 :: U 0#64 :: U 0#64 :: U 0#64 :: U 0#64 :: U 0#64 :: List.replicate 1200 (U 0#64) := by
      rw [show (1208 : Nat) = 1200 + 1 + 1 + 1 + 1 + 1 + 1 + 1 + 1 from rfl]; simp only [List.replicate_succ (n := 1200), List.replicate_succ (n := 1200 + 1), List.replicate_succ (n := 1200 + 1 + 1), List.replicate_succ (n := 1200 + 1 + 1 + 1), List.replicate_succ (n := 1200 + 1 + 1 + 1 + 1), List.replicate_succ (n := 1200 + 1 + 1 + 1 + 1 + 1), List.replicate_succ (n := 1200 + 1 + 1 + 1 + 1 + 1 + 1), List.replicate_succ (n := 1200 + 1 + 1 + 1 + 1 + 1 + 1 + 1)]
    rw [e, rowP, Nat.mul_zero, Nat.sub_zero]
    generalize List.replicate 1200 (U 0#64) = R
    simp [splice, headP]
  clear hc4 m0 m1 m2 m3 m4 m5
  subst q4
  refine ⟨by omega, ?_⟩
  refine rwp_loop (fun k l g' n' => ∃ i, k = ws.length - i ∧ i ≤ ws.length ∧ Kept g n g' n' ∧ n + 1 + 1 < n' ∧ g' (n + 1) = some (.row (cD d (.slice va ws.length ve)) true) ∧ g' (n + 1 + 1) = some (.row (rowP d ws i) true) ∧ l = [(3, .pointer (some ⟨n + 1, 0, none⟩)), (7, .slice (some ⟨n + 1 + 1, 0, none⟩) 1208 1), (8, .int .i64 i)]) ?_ (k := ws.length) ?_
  · rintro k l g' n' ⟨i, rfl, hi, hk, hn2, hrd, hrow, rfl⟩
    simp (maxSteps := 1000000) (disch := first | assumption | omega | rfl | decide | simp only [fitsR, Bool.and_self]) [↓rules, rules, ↓rulesDp, rulesDq, lit_u64, Int.ofNat_inj, stops, rc_reeveref22_PutDescl0, q_int, q_bool, q_uint64, q_A4_uint64, q_S_uint64, q_api_Errno, q_reeveref11_Reply, q_S_reeveref22_Write, q_reeveref22_Desc, q_reeveref1_Geo, q_reeveref22_Write, hrd]
    refine rcond_dec (fun hlt => ?_) (fun hlt => ?_)
    · have hlt : i < ws.length := by omega
      obtain ⟨b1, o1, h1, hb1, h2⟩ := rdX_at (hv.ext (hk.ext hdom)) hlt
      have e1 := (h2 g' (Ext.refl _) Try.prog _ ta_int).1
      have e2 := (h2 g' (Ext.refl _) Try.prog _ ta_uint64).2
      simp only [Value.slice.injEq] at h1
      obtain ⟨rfl, _, rfl⟩ := h1
      have w1 : IntKind.i64.wrap (2 * (i : Int)) = 2 * i := wrap_i64 (by omega) (by omega)
      obtain ⟨j, hj⟩ : ∃ j : Nat, j = 8 + 2 * i := ⟨_, rfl⟩
      obtain ⟨j1, hj1⟩ : ∃ j1 : Nat, j1 = j + 1 := ⟨_, rfl⟩
      have w2 : IntKind.i64.wrap (8 + 2 * (i : Int)) = j := by rw [hj]; exact (wrap_i64 (by omega) (by omega)).trans (by omega)
      have w3 : IntKind.i64.wrap (9 + 2 * (i : Int)) = j1 := by rw [hj1, hj]; exact (wrap_i64 (by omega) (by omega)).trans (by omega)
      have hc1 := rowP_len (d := d) hi hgg.2
      have hb1' : (j : Int) < 1208 := by omega
      have hb2' : (j1 : Int) < 1208 := by omega
      have hb3' : j < 1208 := by omega
      have hb4' : j1 < 1208 := by omega
      have hb5' : j + 1 ≤ 1208 := by omega
      have hb6' : j1 + 1 ≤ 1208 := by omega
      have hst := rowP_step (d := d) hlt hgg.2
      rw [← hj, ← hj1] at hst
      generalize hr0 : rowP d ws i = r0 at hrow hc1 hst
      have hc2 : (splice r0 j [U (BitVec.ofInt 64 ws[i].p)]).length = 1208 := by rw [splice_length (by simp [hc1]; omega)]; exact hc1
      simp (maxSteps := 1000000) (disch := first | assumption | omega | rfl | decide | simp only [fitsR, Bool.and_self]) [↓rules, rules, ↓rulesDp, rulesDq, lit_u64, Int.ofNat_inj, stops, q_int, q_bool, q_uint64, q_A4_uint64, q_S_uint64, q_api_Errno, q_reeveref11_Reply, q_S_reeveref22_Write, q_reeveref22_Desc, q_reeveref1_Geo, q_reeveref22_Write, hlt, hrd, e1, e2, w1, w2, w3, hrow, hb1', hb2', hb3', hb4', hb5', hb6', hc1, hc2, hst, conv_to_u64 tu_int tu_uint64]
      exact ⟨by omega, ws.length - (i + 1), by omega, i + 1, rfl, by omega, Kept.put hk (by omega) (by omega) _, hn2, rfl, wrap_i64 (by omega) (by omega)⟩
    · have : i = ws.length := by omega
      subst this
      simp (maxSteps := 1000000) (disch := first | assumption | omega | rfl | decide | simp only [fitsR, Bool.and_self]) [↓rules, rules, ↓rulesDp, rulesDq, lit_u64, Int.ofNat_inj, stops]
      refine sdone_ret rfl ⟨Or.inr ⟨rfl, n + 1 + 1, by omega, rfl, ?_⟩, hk⟩
      rw [hrow, rowP_end]
  · refine ⟨0, by simp, by simp, Kept.put kb (by omega) (by omega) _, by omega, ?_, ?_, by rfl⟩
    · simp [gset, p1]
    · simp [gset]
end Go.Proofs.Ytafpgojoemcgnaa.F24

namespace Go.Proofs.Ytafpgojoemcgnaa.F24
open Go Go.Proofs Go.Proofs.YtafpgojoemcgnaaAbs
set_option maxHeartbeats 8000000
set_option maxRecDepth 100000
/-! What Get reads of a list of words. -/
def noD : De := ⟨0, 0#64, 0#64, 0#64, 0#64, 0#64, 0, 0#64, 0⟩
/-- The writes from the word k on, as far as all are small. -/
def writesG (l : List (BitVec 64)) (k : Nat) : Nat → Option (List Wr)
  | 0 => some []
  | m + 1 => if l.getD k 0#64 ≤ 2147483647#64 then (writesG l (k + 2) m).map fun ws => ⟨uI (l.getD k 0#64), l.getD (k + 1) 0#64⟩ :: ws else none
def deG (l : List (BitVec 64)) : De :=
  let w := l.getD 0 0#64
  let s : Int := uI w % 256
  ⟨s, w >>> 32, l.getD 1 0#64, l.getD 2 0#64, l.getD 3 0#64, l.getD 4 0#64, uI w / 256 % 256, if s = 1 then 0#64 else l.getD 5 0#64, if s = 1 then 0 else uI (l.getD 6 0#64)⟩
def manyG (l : List (BitVec 64)) : Nat := (l.getD 0 0#64).toNat / 65536 % 65536
def getDe (a b c : Int) (l : List (BitVec 64)) : De × List Wr × Bool :=
  if goodG a b c = true ∧ l.length = 1208 then
    if l.getD 0 0#64 = 0#64 then (noD, [], decide (l.getD 7 0#64 = 0#64))
    else if manyG l ≤ 600 ∧ ((deG l).s = 1 ∨ l.getD 6 0#64 ≤ 2147483647#64) then
      match writesG l 8 (manyG l) with
      | some ws => if goodD a b c (deG l) ws = true ∧ l.getD 7 0#64 = 0#64 then (deG l, ws, true) else (noD, [], false)
      | none => (noD, [], false)
    else (noD, [], false)
  else (noD, [], false)
end Go.Proofs.Ytafpgojoemcgnaa.F24

namespace Go.Proofs.Ytafpgojoemcgnaa.F24
open Go Go.Proofs Go.Proofs.YtafpgojoemcgnaaAbs
set_option maxHeartbeats 8000000
set_option maxRecDepth 100000
theorem writesG_snoc (l : List (BitVec 64)) : ∀ (m k : Nat), writesG l k (m + 1) = (writesG l k m).bind fun ws => if l.getD (k + 2 * m) 0#64 ≤ 2147483647#64 then some (ws ++ [⟨uI (l.getD (k + 2 * m) 0#64), l.getD (k + 2 * m + 1) 0#64⟩]) else none
  | 0, k => by
    simp only [writesG, Nat.mul_zero, Nat.add_zero]
    split <;> rfl
  | m + 1, k => by
    rw [writesG, writesG_snoc l m (k + 2), show writesG l k (m + 1) = if l.getD k 0#64 ≤ 2147483647#64 then (writesG l (k + 2) m).map fun ws => ⟨uI (l.getD k 0#64), l.getD (k + 1) 0#64⟩ :: ws else none from rfl]
    rw [show k + 2 + 2 * m = k + 2 * (m + 1) by omega]
    split
    · cases writesG l (k + 2) m with
      | none => rfl
      | some ws =>
        simp only [Option.bind_some, Option.map_some]
        split <;> rfl
    · rfl
theorem writesG_none (l : List (BitVec 64)) (k m : Nat) (h : writesG l k m = none) : ∀ j, writesG l k (m + j) = none
  | 0 => h
  | j + 1 => by rw [← Nat.add_assoc, writesG_snoc, writesG_none l k m h j]; rfl
theorem writesG_len (l : List (BitVec 64)) : ∀ (m k : Nat) (ws : List Wr), writesG l k m = some ws → ws.length = m
  | 0, k, ws, h => by simp only [writesG, Option.some.injEq] at h; subst h; rfl
  | m + 1, k, ws, h => by
    rw [writesG] at h
    split at h
    · simp only [Option.map_eq_some_iff] at h
      obtain ⟨x, hx, rfl⟩ := h
      rw [List.length_cons, writesG_len l m (k + 2) x hx]
    · cases h
theorem zeroRow_pair' (x y : Value) : zeroRow [x, y] 1 = [x, y] := rfl
theorem Gw.put2 {m n x : Nat} {g : AMem} {v : Value} {ws : List Wr} {o : Option AObj} (h : Gw m g v ws) (hx : x < m) (hn : n ≤ m) : Gw n (gset g x o) v ws := by
  rcases h with h | ⟨b, hb, h1, h2⟩
  · exact Or.inl h
  · exact Or.inr ⟨b, by omega, h1, by rw [gset, if_neg (by omega)]; exact h2⟩
/-- The loop of opd.Get. -/
theorem get_loop {K : RPost} {b0 o0 many n n2 : Nat} {l : List (BitVec 64)} {D : De} {n' : Nat} {G : AMem}
    (hn : l.length = 1208) (hmany : many ≤ 600) (hb0 : b0 < n) (h2 : n + 1 < n2) (hn' : n2 < n') (hdom : ∀ i, G i ≠ none → i < n')
    (hel : ∀ (i : Nat) (hi : i < l.length) (g2 : AMem), g2 b0 = G b0 → ∀ (P : Program) (t : TypeId), tagg P t = some false → aLoad P g2 t (.pointer (some ⟨b0, o0 + i, none⟩)) = some (U l[i]))
    (hrow : G n2 = some (.row (cD D (.slice none 0 0)) true))
    (hfail : ∀ l' g' m', n' ≤ m' → writesG l 8 many = none → (∀ i, i < n2 → i ≠ n + 1 → g' i = G i) → (∀ i, g' i ≠ none → i < m') → g' (n + 1) = some (.row (cD noD (.slice none 0 0)) true) → YtafpgojoemcgnaaAbs.look 4 l' = .pointer (some ⟨n + 1, 0, none⟩) → YtafpgojoemcgnaaAbs.look 5 l' = .bool false → K .ret l' g' m')
    (hend : ∀ l' g' m' V ws, n' ≤ m' → writesG l 8 many = some ws → (∀ i, i < n2 → g' i = G i) → (∀ i, g' i ≠ none → i < m') → g' n2 = some (.row (cD D V) true) → Gw (n2 + 1) g' V ws →
      YtafpgojoemcgnaaAbs.look 1 l' = .slice (some ⟨b0, o0, none⟩) 1208 1 → YtafpgojoemcgnaaAbs.look 2 l' = .pointer (some ⟨n, 0, none⟩) → YtafpgojoemcgnaaAbs.look 4 l' = .pointer (some ⟨n + 1, 0, none⟩) → YtafpgojoemcgnaaAbs.look 9 l' = .pointer (some ⟨n2, 0, none⟩) → K (.exit 0) l' g' m')
    (hG1 : G (n + 1) = some (.row (cD noD (.slice none 0 0)) true)) :
    rwp Try.prog (fun i => n ≤ i) (RCode.loop [1, 2, 4, 9, 86, 87] rc_opd_Getl0) K
      [(1, .slice (some ⟨b0, o0, none⟩) 1208 1), (2, .pointer (some ⟨n, 0, none⟩)), (4, .pointer (some ⟨n + 1, 0, none⟩)), (9, .pointer (some ⟨n2, 0, none⟩)), (86, .int .i64 many), (87, .int .i64 0)] G n' := by
  refine rwp_loop (fun k l' g' m' => ∃ i V ws, k = many - i ∧ i ≤ many ∧ n' ≤ m' ∧ writesG l 8 i = some ws ∧ (∀ i, i < n2 → g' i = G i) ∧ (∀ i, g' i ≠ none → i < m') ∧ g' n2 = some (.row (cD D V) true) ∧ Gw (n2 + 1) g' V ws ∧
    l' = [(1, .slice (some ⟨b0, o0, none⟩) 1208 1), (2, .pointer (some ⟨n, 0, none⟩)), (4, .pointer (some ⟨n + 1, 0, none⟩)), (9, .pointer (some ⟨n2, 0, none⟩)), (86, .int .i64 many), (87, .int .i64 i)]) ?_ (k := many) ?_
  · rintro k l' g' m' ⟨i, V, ws, rfl, hi, hm', hws, hsame, hd, hr2, hV, rfl⟩
    simp (maxSteps := 1000000) (disch := first | assumption | omega | rfl | decide | simp only [fitsR, Bool.and_self]) [↓rules, rules, ↓rulesDp, rulesDq, lit_u64, Int.ofNat_inj, stops, rc_opd_Getl0, q_int, q_bool, q_uint64, q_A4_uint64, q_S_uint64, q_geo_Geo, q_api_Errno, q_state_Reply, q_S_wset_Write, q_opd_Desc, q_wset_Write, q_S_tag_Field, q_tag_Field]
    refine rcond_dec (fun hlt => ?_) (fun hlt => ?_)
    · have hlt : i < many := by omega
      have w1 : IntKind.i64.wrap (2 * (i : Int)) = 2 * i := wrap_i64 (by omega) (by omega)
      obtain ⟨j, hj⟩ : ∃ j : Nat, j = 8 + 2 * i := ⟨_, rfl⟩
      obtain ⟨j1, hj1⟩ : ∃ j1 : Nat, j1 = j + 1 := ⟨_, rfl⟩
      have w2 : IntKind.i64.wrap (8 + 2 * (i : Int)) = j := by rw [hj]; exact (wrap_i64 (by omega) (by omega)).trans (by omega)
      have w3 : IntKind.i64.wrap ((j : Int) + 1) = j1 := by rw [hj1]; exact wrap_i64 (by omega) (by omega)
      have e1 := hel j (by omega) g' (hsame b0 (by omega)) Try.prog _ ta_uint64
      have e2 := hel j1 (by omega) g' (hsame b0 (by omega)) Try.prog _ ta_uint64
      have b1 : (j : Int) < 1208 := by omega
      have b2 : (j1 : Int) < 1208 := by omega
      have hsn := writesG_snoc l i 8
      rw [hws, Option.bind_some, ← hj, show l.getD j 0#64 = l[j] from by simp [List.getD_eq_getElem?_getD, show j < l.length by omega], show l.getD (j + 1) 0#64 = l[j1] from by rw [← hj1]; simp [List.getD_eq_getElem?_getD, show j1 < l.length by omega]] at hsn
      by_cases c1 : 2147483647#64 < l[j]
      · rw [if_neg (BitVec.not_le.2 c1)] at hsn
        have hno : writesG l 8 many = none := by
          have := writesG_none l 8 (i + 1) hsn (many - (i + 1))
          rwa [show i + 1 + (many - (i + 1)) = many by omega] at this
        have hg1 := (hsame (n + 1) (by omega)).trans hG1
        simp (maxSteps := 1000000) (disch := first | assumption | omega | rfl | decide | simp only [fitsR, Bool.and_self]) [↓rules, rules, ↓rulesDp, rulesDq, lit_u64, Int.ofNat_inj, stops, q_int, q_bool, q_uint64, q_A4_uint64, q_S_uint64, q_geo_Geo, q_api_Errno, q_state_Reply, q_S_wset_Write, q_opd_Desc, q_wset_Write, q_S_tag_Field, q_tag_Field, w1, w2, w3, e1, b1, c1, hg1]
        refine hfail _ _ m' hm' hno (fun x hx hx' => ?_) (fun x hx => ?_) ?_ (by rfl) (by rfl)
        · rw [gset_ne _ _ hx']; exact hsame x hx
        · unfold gset at hx; split at hx
          · omega
          · exact hd x hx
        · simp [gset, noD]
      rw [if_pos (BitVec.not_lt.1 c1)] at hsn
      have hlen := writesG_len l i 8 ws hws
      have hw : IntKind.i64.wrap (uI l[j]) = uI l[j] := by
        have := BitVec.le_def.1 (BitVec.not_lt.1 c1)
        exact wrap_i64 (by simp only [uI]; omega) (by simp only [uI]; simp at this; omega)
      have hb02 : b0 ≠ n2 := by omega
      rcases hV with ⟨rfl, rfl⟩ | ⟨bV, hbV, rfl, hgV⟩
      · simp (maxSteps := 1000000) (disch := first | assumption | omega | rfl | decide | simp only [fitsR, Bool.and_self]) [↓rules, rules, ↓rulesDp, rulesDq, lit_u64, Int.ofNat_inj, stops, q_int, q_bool, q_uint64, q_A4_uint64, q_S_uint64, q_geo_Geo, q_api_Errno, q_state_Reply, q_S_wset_Write, q_opd_Desc, q_wset_Write, q_S_tag_Field, q_tag_Field, w1, w2, w3, e1, b1, c1, hr2, e2, b2, conv_of_u64 tu_uint64 tu_int, hw, zeroRow_pair']
        refine ⟨by omega, many - (i + 1), by omega, i + 1, rfl, by omega, by omega, _, _, hsn, fun x hx => ?_, fun x hx => ?_, rfl, Or.inr ⟨m' + 1, by omega, ?_, ?_⟩, ?_⟩
        · rw [if_neg (by omega), if_neg (by omega), if_neg (by omega)]; exact hsame x hx
        · refine Classical.byContradiction fun hc => hx ?_
          rw [if_neg (by omega), if_neg (by omega), if_neg (by omega)]
          exact Classical.byContradiction fun h => hc (by have := hd x h; omega)
        · rfl
        · simp only [gset]; rw [if_neg (by omega), if_pos trivial]; rfl
        · exact wrap_i64 (by omega) (by omega)
      · have hbm := hd bV (by rw [hgV]; simp)
        have hbn1 : bV ≠ m' := by omega
        have hsz : (i + 1) * 16 ≤ 70368744177664 := by omega
        have hsz2 : i ≤ 70368744177663 := by omega
        have hfl : (ws.flatMap cW).length = i * 2 := by rw [flat_length (enc := cW) (e := 2) (fun _ => rfl), hlen]
        have htc : (ws ++ [(⟨uI l[j], l[j1]⟩ : Wr)]).flatMap cW = ws.flatMap cW ++ [.int .i64 (uI l[j]), U l[j1]] := by rw [List.flatMap_append]; rfl
        generalize hcs : ws.flatMap cW = cs at hfl hgV htc
        simp (maxSteps := 1000000) (disch := first | assumption | omega | rfl | decide | simp only [fitsR, Bool.and_self]) [↓rules, rules, ↓rulesDp, rulesDq, lit_u64, Int.ofNat_inj, stops, q_int, q_bool, q_uint64, q_A4_uint64, q_S_uint64, q_geo_Geo, q_api_Errno, q_state_Reply, q_S_wset_Write, q_opd_Desc, q_wset_Write, q_S_tag_Field, q_tag_Field, w1, w2, w3, e1, b1, c1, hr2, e2, b2, conv_of_u64 tu_uint64 tu_int, hw, zeroRow_pair', hgV, hbn1, hlen, hsz, hsz2, hfl]
        refine ⟨by omega, by omega, many - (i + 1), by omega, i + 1, rfl, by omega, by omega, _, _, hsn, fun x hx => ?_, fun x hx => ?_, rfl, Or.inr ⟨m' + 1, by omega, ?_, ?_⟩, ?_⟩
        · rw [if_neg (by omega), if_neg (by omega), if_neg (by omega), if_neg (by omega)]; exact hsame x hx
        · refine Classical.byContradiction fun hc => hx ?_
          rw [if_neg (by omega), if_neg (by omega)]
          split
          · rfl
          · rw [if_neg (by omega)]
            exact Classical.byContradiction fun h => hc (by have := hd x h; omega)
        · simp only [List.length_append, hlen, List.length_cons, List.length_nil]
        · simp only [gset]; rw [if_neg (by omega), if_pos trivial, htc]
        · exact wrap_i64 (by omega) (by omega)
    · have : i = many := by omega
      subst this
      simp (maxSteps := 1000000) (disch := first | assumption | omega | rfl | decide | simp only [fitsR, Bool.and_self]) [↓rules, rules, ↓rulesDp, rulesDq, lit_u64, Int.ofNat_inj, stops]
      exact hend _ _ _ V ws hm' hws hsame hd hr2 hV (by rfl) (by rfl) (by rfl) (by rfl)
  · exact ⟨0, .slice none 0 0, [], by simp, by omega, Nat.le_refl _, rfl, fun _ _ => rfl, hdom, hrow, Or.inl ⟨rfl, rfl⟩, by rfl⟩
end Go.Proofs.Ytafpgojoemcgnaa.F24

namespace Go.Proofs.Ytafpgojoemcgnaa.F24
open Go Go.Proofs Go.Proofs.YtafpgojoemcgnaaAbs
set_option maxHeartbeats 8000000
set_option maxRecDepth 100000
/-- What Get returns. -/
def GetR (n : Nat) (g : AMem) (v : Value) (r : De × List Wr × Bool) : Prop := ∃ V, v = .tuple #[vD r.1 V, .bool r.2.2] ∧ Gw n g V r.2.1
theorem getDe_no {a b c : Int} {l : List (BitVec 64)} (h : goodG a b c = false ∨ l.length ≠ 1208) : getDe a b c l = (noD, [], false) := by
  rw [getDe, if_neg]
  rintro ⟨h1, h2⟩
  rcases h with h | h
  · rw [h1] at h; cases h
  · exact h h2
theorem opd_Get (a b c : Int) (L : Value) (l : List (BitVec 64)) (g : AMem) (n : Nat) (hdom : ∀ i, g i ≠ none → i < n) (hl : l.length < 4611686018427387904) (hv : rdW g L l) :
    FnS Try.prog f_opd_Get [gv a b c, L] g n (fun _ => False) fun r g' n' => GetR n g' r (getDe a b c l) ∧ Kept g n g' n' := by
  refine fnS_of_rwp t_opd_Get hm rfl hdom ?_
  obtain ⟨va, ve, hvf⟩ := hv.form
  simp (maxSteps := 1000000) (disch := first | assumption | omega | rfl | decide | simp only [fitsR, Bool.and_self]) [↓rules, rules, ↓rulesDp, rulesDq, lit_u64, Int.ofNat_inj, stops, rc_opd_Get, q_int, q_bool, q_uint64, q_A4_uint64, q_S_uint64, q_geo_Geo, q_api_Errno, q_state_Reply, q_S_wset_Write, q_opd_Desc, q_wset_Write, q_S_tag_Field, q_tag_Field]
  refine rcall_quiet rfl (DescG _ _ _ _ _ _) ?_
  cases hg : goodG a b c
  · rw [show descG a b c 0 = (0, 0) by rw [descG, if_neg (fun h => by rw [hg] at h; cases h.1)]]
    simp (maxSteps := 1000000) (disch := first | assumption | omega | rfl | decide | simp only [fitsR, Bool.and_self]) [↓rules, rules, ↓rulesDp, rulesDq, lit_u64, Int.ofNat_inj, stops, q_int, q_bool, q_uint64, q_A4_uint64, q_S_uint64, q_geo_Geo, q_api_Errno, q_state_Reply, q_S_wset_Write, q_opd_Desc, q_wset_Write, q_S_tag_Field, q_tag_Field]
    refine sdone_ret (v := .tuple #[vD noD (.slice none 0 0), .bool false]) (by simp (maxSteps := 1000000) (disch := first | assumption | omega | rfl | decide | simp only [fitsR, Bool.and_self]) [↓rules, rules, ↓rulesDp, rulesDq, lit_u64, Int.ofNat_inj, stops, aResults, aRes, q_int, q_bool, q_uint64, q_A4_uint64, q_S_uint64, q_geo_Geo, q_api_Errno, q_state_Reply, q_S_wset_Write, q_opd_Desc, q_wset_Write, q_S_tag_Field, q_tag_Field, noD]) ⟨⟨_, by rw [getDe_no (Or.inl hg)], Or.inl ⟨by rw [getDe_no (Or.inl hg)], rfl⟩⟩, (by repeat first | exact Kept.refl hdom | refine Kept.new ?_ _ | refine Kept.drop ?_ (by omega) | refine Kept.put ?_ (by omega) (by omega) _ | refine Kept.skip ?_)⟩
  have ok := goodG_iff.1 hg
  rw [show descG a b c 0 = (16, 1208) by rw [descG, if_pos ⟨hg, by omega, by omega⟩]; rfl]
  by_cases hn : l.length = 1208
  case neg =>
    have hn' : ¬ (l.length : Int) = 1208 := by omega
    simp (maxSteps := 1000000) (disch := first | assumption | omega | rfl | decide | simp only [fitsR, Bool.and_self]) [↓rules, rules, ↓rulesDp, rulesDq, lit_u64, Int.ofNat_inj, stops, q_int, q_bool, q_uint64, q_A4_uint64, q_S_uint64, q_geo_Geo, q_api_Errno, q_state_Reply, q_S_wset_Write, q_opd_Desc, q_wset_Write, q_S_tag_Field, q_tag_Field, hvf, hn']
    refine sdone_ret (v := .tuple #[vD noD (.slice none 0 0), .bool false]) (by simp (maxSteps := 1000000) (disch := first | assumption | omega | rfl | decide | simp only [fitsR, Bool.and_self]) [↓rules, rules, ↓rulesDp, rulesDq, lit_u64, Int.ofNat_inj, stops, aResults, aRes, q_int, q_bool, q_uint64, q_A4_uint64, q_S_uint64, q_geo_Geo, q_api_Errno, q_state_Reply, q_S_wset_Write, q_opd_Desc, q_wset_Write, q_S_tag_Field, q_tag_Field, noD]) ⟨⟨_, by rw [getDe_no (Or.inr hn)], Or.inl ⟨by rw [getDe_no (Or.inr hn)], rfl⟩⟩, (by repeat first | exact Kept.refl hdom | refine Kept.new ?_ _ | refine Kept.drop ?_ (by omega) | refine Kept.put ?_ (by omega) (by omega) _ | refine Kept.skip ?_)⟩
  have hn' : (l.length : Int) = 1208 := by omega
  obtain ⟨b0, o0, cs0, r0, h0, hb0, hnth⟩ := rd_nths (f := U) hv (by omega)
  have hb0n := hdom b0 (by rw [hb0]; simp)
  subst h0
  have hel : ∀ (i : Nat) (hi : i < l.length) (g2 : AMem), g2 b0 = g b0 → ∀ (P : Program) (t : TypeId), tagg P t = some false → aLoad P g2 t (.pointer (some ⟨b0, o0 + i, none⟩)) = some (U l[i]) := fun i hi g2 hx P t ht => load_elem1 (hx.trans hb0) ht (hnth i hi)
  generalize hG : gset _ _ _ = G
  have kb : Kept g n G (n + 1 + 1) := by rw [← hG]; exact (by repeat first | exact Kept.refl hdom | refine Kept.new ?_ _ | refine Kept.drop ?_ (by omega) | refine Kept.put ?_ (by omega) (by omega) _ | refine Kept.skip ?_)
  have p0 : G n = some (.row [.int .i64 a, .int .i64 b, .int .i64 c] true) := by rw [← hG]; simp [gset]
  have p1 : G (n + 1) = some (.row (cD noD (.slice none 0 0)) true) := by rw [← hG]; simp [gset, noD]
  have w0 := hel 0 (by omega) G (kb.same b0 hb0n) Try.prog _ ta_uint64
  have w7 := hel 7 (by omega) G (kb.same b0 hb0n) Try.prog _ ta_uint64
  simp only [Nat.add_zero] at w0
  clear hG
  have h7 : (7 : Int) < l.length := by omega
  have hbn : b0 ≠ n + 1 := by omega
  simp (maxSteps := 1000000) (disch := first | assumption | omega | rfl | decide | simp only [fitsR, Bool.and_self]) [↓rules, rules, ↓rulesDp, rulesDq, lit_u64, Int.ofNat_inj, stops, q_int, q_bool, q_uint64, q_A4_uint64, q_S_uint64, q_geo_Geo, q_api_Errno, q_state_Reply, q_S_wset_Write, q_opd_Desc, q_wset_Write, q_S_tag_Field, q_tag_Field, hn, hn', w0]
  have gD : ∀ (i : Nat) (h : i < l.length), l.getD i 0#64 = l[i] := fun i h => by simp [List.getD_eq_getElem?_getD, h]
  by_cases z : l[0] = 0#64
  · simp (maxSteps := 1000000) (disch := first | assumption | omega | rfl | decide | simp only [fitsR, Bool.and_self]) [↓rules, rules, ↓rulesDp, rulesDq, lit_u64, Int.ofNat_inj, stops, q_int, q_bool, q_uint64, q_A4_uint64, q_S_uint64, q_geo_Geo, q_api_Errno, q_state_Reply, q_S_wset_Write, q_opd_Desc, q_wset_Write, q_S_tag_Field, q_tag_Field, z, w7, h7, hbn, p1]
    have hz : getDe a b c l = (noD, [], decide (l[7] = 0#64)) := by
      rw [getDe, if_pos ⟨hg, hn⟩, gD 0 (by omega), gD 7 (by omega), if_pos z]
    rw [hz]
    refine sdone_ret (v := .tuple #[vD noD (.slice none 0 0), .bool (decide (l[7] = 0#64))]) (by simp (maxSteps := 1000000) (disch := first | assumption | omega | rfl | decide | simp only [fitsR, Bool.and_self]) [↓rules, rules, ↓rulesDp, rulesDq, lit_u64, Int.ofNat_inj, stops, aResults, aRes, q_int, q_bool, q_uint64, q_A4_uint64, q_S_uint64, q_geo_Geo, q_api_Errno, q_state_Reply, q_S_wset_Write, q_opd_Desc, q_wset_Write, q_S_tag_Field, q_tag_Field, noD]) ⟨⟨_, rfl, Or.inl ⟨rfl, rfl⟩⟩, Kept.put kb (by omega) (by omega) _⟩
  simp (maxSteps := 1000000) (disch := first | assumption | omega | rfl | decide | simp only [fitsR, Bool.and_self]) [↓rules, rules, ↓rulesDp, rulesDq, lit_u64, Int.ofNat_inj, stops, q_int, q_bool, q_uint64, q_A4_uint64, q_S_uint64, q_geo_Geo, q_api_Errno, q_state_Reply, q_S_wset_Write, q_opd_Desc, q_wset_Write, q_S_tag_Field, q_tag_Field, z, w0, hn']
  refine dcall_spec0 kb.dom (opd_fields _) (fun _ _ _ h => h.2) rfl fun vf hf nf g1 ⟨p1f, p2f⟩ k2 xe2 s2 => ?_
  have l2 := k2.le
  simp (maxSteps := 1000000) (disch := first | assumption | omega | rfl | decide | simp only [fitsR, Bool.and_self]) [↓rules, rules, ↓rulesDp, rulesDq, lit_u64, Int.ofNat_inj, stops, q_int, q_bool, q_uint64, q_A4_uint64, q_S_uint64, q_geo_Geo, q_api_Errno, q_state_Reply, q_S_wset_Write, q_opd_Desc, q_wset_Write, q_S_tag_Field, q_tag_Field]
  refine dcall_spec k2.dom (Get l[0] vf wordsF _ _ k2.dom (by decide) fo_words (p1f.ext xe2)) (fun _ _ _ h => h.2) rfl (by simp (maxSteps := 1000000) (disch := first | assumption | omega | rfl | decide | simp only [fitsR, Bool.and_self]) [↓rules, rules, ↓rulesDp, rulesDq, lit_u64, Int.ofNat_inj]) fun va g2 n2 ⟨r2, k3⟩ => ?_
  have l3 := k3.le
  rw [getsF, if_pos good_wordsF] at r2
  have kg := (kb.trans k2).trans k3
  have q0 := ((k2.trans k3).same n (by omega)).trans p0
  have q1 := ((k2.trans k3).same (n + 1) (by omega)).trans p1
  obtain ⟨ba, oa, ca, ra, hva, hga, hea⟩ := rd_nths (f := U) r2 (by simp [wordsF])
  subst hva
  have a0 := hea 0 (by simp [wordsF]); have a1 := hea 1 (by simp [wordsF]); have a2 := hea 2 (by simp [wordsF]); have a3 := hea 3 (by simp [wordsF])
  simp only [wordsF, List.map_cons, List.map_nil, List.getElem_cons_zero, List.getElem_cons_succ, Nat.add_zero] at a0 a1 a2 a3
  have hba := k3.dom ba (by rw [hga]; simp)
  have hd0 : l.getD 0 0#64 = l[0] := gD 0 (by omega)
  have s0 : IntKind.i64.wrap (uI (getF l[0] (0, 8))) = (deG l).s := by
    rw [show getF l[0] (0, 8) = getF l[0] (((0 : Nat) : Int), ((8 : Nat) : Int)) from rfl, fld_wrap _ 0 8 (by decide) (by decide), fld, deG, hd0]
    simp only [uI]; omega
  have s1 : IntKind.i64.wrap (uI (getF l[0] (8, 8))) = (deG l).e := by
    rw [show getF l[0] (8, 8) = getF l[0] (((8 : Nat) : Int), ((8 : Nat) : Int)) from rfl, fld_wrap _ 8 8 (by decide) (by decide), fld, deG, hd0]
    simp only [uI]; omega
  have s2' : IntKind.i64.wrap (uI (getF l[0] (16, 16))) = (manyG l : Int) := by
    rw [show getF l[0] (16, 16) = getF l[0] (((16 : Nat) : Int), ((16 : Nat) : Int)) from rfl, fld_wrap _ 16 16 (by decide) (by decide), fld, manyG, hd0]
  have sq : getF l[0] (32, 32) = (deG l).q := by
    apply BitVec.eq_of_toNat_eq
    rw [show getF l[0] (32, 32) = getF l[0] (((32 : Nat) : Int), ((32 : Nat) : Int)) from rfl, getF_nat _ 32 32 (by decide), deG, hd0, BitVec.toNat_ushiftRight, Nat.shiftRight_eq_div_pow]
    have := l[0].isLt
    omega
  have t1 : l[1] = (deG l).l0 := (gD 1 (by omega)).symm
  have t2 : l[2] = (deG l).l1 := (gD 2 (by omega)).symm
  have t3 : l[3] = (deG l).l2 := (gD 3 (by omega)).symm
  have t4 : l[4] = (deG l).l3 := (gD 4 (by omega)).symm
  have t5 : l[5] = if (deG l).s = 1 then l[5] else (deG l).w := by
    split
    · rfl
    · rename_i h; rw [deG] at h ⊢; simp only at h ⊢; rw [if_neg h]; exact (gD 5 (by omega)).symm
  have t6 : uI l[6] = if (deG l).s = 1 then uI l[6] else (deG l).n := by
    split
    · rfl
    · rename_i h; rw [deG] at h ⊢; simp only at h ⊢; rw [if_neg h, gD 6 (by omega)]
  have t7 : (deG l).s = 1 → (deG l).w = 0#64 ∧ (deG l).n = 0 := fun h => by
    rw [deG] at h ⊢; simp only at h ⊢; rw [if_pos h, if_pos h]; exact ⟨rfl, rfl⟩
  have hget : getDe a b c l = if manyG l ≤ 600 ∧ ((deG l).s = 1 ∨ l[6] ≤ 2147483647#64) then
      match writesG l 8 (manyG l) with
      | some ws => if goodD a b c (deG l) ws = true ∧ l[7] = 0#64 then (deG l, ws, true) else (noD, [], false)
      | none => (noD, [], false)
    else (noD, [], false) := by
    rw [getDe, if_pos ⟨hg, hn⟩, hd0, if_neg z, gD 6 (by omega), gD 7 (by omega)]
    try rfl
  generalize getDe a b c l = res at hget ⊢
  generalize deG l = D at s0 s1 sq t1 t2 t3 t4 t5 t6 t7 hget ⊢
  generalize hmany : manyG l = many at s2' hget ⊢
  have hbg2 : b0 ≠ n2 := by omega
  simp (maxSteps := 1000000) (disch := first | assumption | omega | rfl | decide | simp only [fitsR, Bool.and_self]) [↓rules, rules, ↓rulesDp, rulesDq, lit_u64, Int.ofNat_inj, stops, q_int, q_bool, q_uint64, q_A4_uint64, q_S_uint64, q_geo_Geo, q_api_Errno, q_state_Reply, q_S_wset_Write, q_opd_Desc, q_wset_Write, q_S_tag_Field, q_tag_Field, hga, a0, a1, a2, a3, conv_of_u64 tu_uint64 tu_int, s0, sq, wordsF, hbg2, hn]
  refine ⟨by omega, ?_⟩
  obtain ⟨R, h52⟩ : ∃ R, readR (g2 b0) (o0 + 1) 1207 1 = some (1207, U l[1] :: U l[2] :: U l[3] :: U l[4] :: R) := by
    have hp := rd_part (enc := fun w => [U w]) (fun _ => rfl) (hv.ext (kg.ext hdom)) 1 1207 (by omega)
    unfold Rd at hp
    rw [aRead_at, if_neg (by decide), Nat.mul_one] at hp
    rw [hp]
    have ht : (l.drop 1).take 1207 = l[1] :: l[2] :: l[3] :: l[4] :: l.drop 5 := by
      rw [List.take_of_length_le (by rw [List.length_drop]; omega), List.drop_eq_getElem_cons (by omega), List.drop_eq_getElem_cons (by omega), List.drop_eq_getElem_cons (by omega), List.drop_eq_getElem_cons (by omega)]
    rw [ht]
    refine ⟨(l.drop 5).flatMap fun w => [U w], ?_⟩
    rw [show (l[1] :: l[2] :: l[3] :: l[4] :: l.drop 5).length = 1207 by simp [List.length_drop, hn]]
    rfl
  have hm16 : many < 65536 := by rw [← hmany, manyG]; omega
  by_cases c1 : 600 < (many : Int)
  · simp (maxSteps := 1000000) (disch := first | assumption | omega | rfl | decide | simp only [fitsR, Bool.and_self]) [↓rules, rules, ↓rulesDp, rulesDq, lit_u64, Int.ofNat_inj, stops, q_int, q_bool, q_uint64, q_A4_uint64, q_S_uint64, q_geo_Geo, q_api_Errno, q_state_Reply, q_S_wset_Write, q_opd_Desc, q_wset_Write, q_S_tag_Field, q_tag_Field, h52, hga, a0, a1, a2, a3, conv_of_u64 tu_uint64 tu_int, conv_of_u64 tu_uint64 tu_api_Errno, s1, s2', hba, c1, q1]
    rw [if_neg (fun h => by omega)] at hget
    subst hget
    refine ⟨by omega, ?_⟩
    refine sdone_ret (v := .tuple #[vD noD (.slice none 0 0), .bool false]) (by simp (maxSteps := 1000000) (disch := first | assumption | omega | rfl | decide | simp only [fitsR, Bool.and_self]) [↓rules, rules, ↓rulesDp, rulesDq, lit_u64, Int.ofNat_inj, stops, aResults, aRes, q_int, q_bool, q_uint64, q_A4_uint64, q_S_uint64, q_geo_Geo, q_api_Errno, q_state_Reply, q_S_wset_Write, q_opd_Desc, q_wset_Write, q_S_tag_Field, q_tag_Field, noD]) ⟨⟨_, rfl, Or.inl ⟨rfl, rfl⟩⟩, (by repeat first | exact kg | refine Kept.new ?_ _ | refine Kept.drop ?_ (by omega) | refine Kept.put ?_ (by omega) (by omega) _ | refine Kept.skip ?_)⟩
  rcases Decidable.em (D.s = 1) with c2 | c2
  focus
    simp (maxSteps := 1000000) (disch := first | assumption | omega | rfl | decide | simp only [fitsR, Bool.and_self]) [↓rules, rules, ↓rulesDp, rulesDq, lit_u64, Int.ofNat_inj, stops, q_int, q_bool, q_uint64, q_A4_uint64, q_S_uint64, q_geo_Geo, q_api_Errno, q_state_Reply, q_S_wset_Write, q_opd_Desc, q_wset_Write, q_S_tag_Field, q_tag_Field, h52, hga, a0, a1, a2, a3, conv_of_u64 tu_uint64 tu_int, conv_of_u64 tu_uint64 tu_api_Errno, s1, s2', hba, c1, c2]
    refine ⟨by omega, ?_⟩
    generalize hH : gset _ _ _ = H
    have kH : Kept g n H (n2 + 1) := by rw [← hH]; exact (by repeat first | exact kg | refine Kept.new ?_ _ | refine Kept.drop ?_ (by omega) | refine Kept.put ?_ (by omega) (by omega) _ | refine Kept.skip ?_)
    have hHrow : H n2 = some (.row (cD D (.slice none 0 0)) true) := by rw [← hH]; simp [gset, c2, (t7 c2).1, (t7 c2).2, t1, t2, t3, t4]
    have hc3 : D.s = 1 ∨ l[6] ≤ 2147483647#64 := Or.inl c2
  rotate_left
  focus
    have e5 := hel 5 (by omega) (gset g2 n2 (some (.row (cD { D with w := 0#64, n := 0 } (.slice none 0 0)) true))) (by rw [gset_ne _ _ (by omega)]; exact kg.same b0 hb0n) Try.prog _ ta_uint64
    have e6 := hel 6 (by omega) (gset g2 n2 (some (.row (cD { D with w := 0#64, n := 0 } (.slice none 0 0)) true))) (by rw [gset_ne _ _ (by omega)]; exact kg.same b0 hb0n) Try.prog _ ta_uint64
    have f5 := hel 5 (by omega) g2 (kg.same b0 hb0n) Try.prog _ ta_uint64
    have f6 := hel 6 (by omega) g2 (kg.same b0 hb0n) Try.prog _ ta_uint64
    have h6w : l[6] ≤ 2147483647#64 → IntKind.i64.wrap (uI l[6]) = uI l[6] := fun h => by
      have := BitVec.le_def.1 h
      exact wrap_i64 (by simp only [uI]; omega) (by simp only [uI]; simp at this; omega)
    rw [aLoad_eq, ta_uint64, ts_uint64] at f5 f6
    by_cases c3 : 2147483647#64 < l[6]
    · simp (maxSteps := 1000000) (disch := first | assumption | omega | rfl | decide | simp only [fitsR, Bool.and_self]) [↓rules, rules, ↓rulesDp, rulesDq, lit_u64, Int.ofNat_inj, stops, q_int, q_bool, q_uint64, q_A4_uint64, q_S_uint64, q_geo_Geo, q_api_Errno, q_state_Reply, q_S_wset_Write, q_opd_Desc, q_wset_Write, q_S_tag_Field, q_tag_Field, h52, hga, a0, a1, a2, a3, conv_of_u64 tu_uint64 tu_int, conv_of_u64 tu_uint64 tu_api_Errno, s1, s2', hba, c1, c2, f6, c3, q1]
      rw [if_neg (fun h => h.2.elim c2 (fun h => BitVec.not_le.2 c3 h))] at hget
      subst hget
      refine ⟨by omega, ?_⟩
      refine sdone_ret (v := .tuple #[vD noD (.slice none 0 0), .bool false]) (by simp (maxSteps := 1000000) (disch := first | assumption | omega | rfl | decide | simp only [fitsR, Bool.and_self]) [↓rules, rules, ↓rulesDp, rulesDq, lit_u64, Int.ofNat_inj, stops, aResults, aRes, q_int, q_bool, q_uint64, q_A4_uint64, q_S_uint64, q_geo_Geo, q_api_Errno, q_state_Reply, q_S_wset_Write, q_opd_Desc, q_wset_Write, q_S_tag_Field, q_tag_Field, noD]) ⟨⟨_, rfl, Or.inl ⟨rfl, rfl⟩⟩, (by repeat first | exact kg | refine Kept.new ?_ _ | refine Kept.drop ?_ (by omega) | refine Kept.put ?_ (by omega) (by omega) _ | refine Kept.skip ?_)⟩
    simp (maxSteps := 1000000) (disch := first | assumption | omega | rfl | decide | simp only [fitsR, Bool.and_self]) [↓rules, rules, ↓rulesDp, rulesDq, lit_u64, Int.ofNat_inj, stops, q_int, q_bool, q_uint64, q_A4_uint64, q_S_uint64, q_geo_Geo, q_api_Errno, q_state_Reply, q_S_wset_Write, q_opd_Desc, q_wset_Write, q_S_tag_Field, q_tag_Field, h52, hga, a0, a1, a2, a3, conv_of_u64 tu_uint64 tu_int, conv_of_u64 tu_uint64 tu_api_Errno, s1, s2', hba, c1, c2, f5, f6, c3, h6w (BitVec.not_lt.1 c3)]
    refine ⟨by omega, ?_⟩
    generalize hH : gset _ _ _ = H
    have kH : Kept g n H (n2 + 1) := by rw [← hH]; exact (by repeat first | exact kg | refine Kept.new ?_ _ | refine Kept.drop ?_ (by omega) | refine Kept.put ?_ (by omega) (by omega) _ | refine Kept.skip ?_)
    have hHrow : H n2 = some (.row (cD D (.slice none 0 0)) true) := by rw [← hH]; simp [gset, t1, t2, t3, t4]; rw [if_neg c2] at t5 t6; exact ⟨by rw [t5], t6⟩
    have hc3 : D.s = 1 ∨ l[6] ≤ 2147483647#64 := Or.inr (BitVec.not_lt.1 c3)
  all_goals
    have hH0 : H n = some (.row [.int .i64 a, .int .i64 b, .int .i64 c] true) := by rw [← hH]; simp only [gset]; rw [if_neg (by omega)]; exact q0
    have hH1 : H (n + 1) = some (.row (cD noD (.slice none 0 0)) true) := by rw [← hH]; simp only [gset]; rw [if_neg (by omega)]; exact q1
    clear hH
    refine get_loop (n := n) (D := D) (many := many) hn (by omega) hb0n (by omega) (by omega) kH.dom (fun i hi g3 hx P t ht => hel i hi g3 (hx.trans (kH.same b0 hb0n)) P t ht) hHrow ?_ ?_ hH1
    · intro l' g' m' hm' hw hsame hd hrow h4 h5
      rw [if_pos ⟨by omega, hc3⟩, hw] at hget
      have hget : res = (noD, [], false) := hget
      subst hget
      simp only [inBlockR_ret, thenR_ret]
      refine sdone_ret (v := .tuple #[vD noD (.slice none 0 0), .bool false]) (by simp (maxSteps := 1000000) (disch := first | assumption | omega | rfl | decide | simp only [fitsR, Bool.and_self]) [↓rules, rules, ↓rulesDp, rulesDq, lit_u64, Int.ofNat_inj, stops, aResults, aRes, q_int, q_bool, q_uint64, q_A4_uint64, q_S_uint64, q_geo_Geo, q_api_Errno, q_state_Reply, q_S_wset_Write, q_opd_Desc, q_wset_Write, q_S_tag_Field, q_tag_Field, h4, h5, hrow]) ⟨⟨_, rfl, Or.inl ⟨rfl, rfl⟩⟩, ?_⟩
      exact ⟨by omega, fun x hx => (hsame x (by omega) (by omega)).trans (kH.same x hx), hd⟩
    · intro l' g' m' V ws hm' hw hsame hd hrow hV h1 h2 h4 h9
      have hg0 := (hsame n (by omega)).trans hH0
      have hg1 := (hsame (n + 1) (by omega)).trans hH1
      have hgb := (hsame b0 (by omega)).trans (kH.same b0 hb0n)
      have e7 := hel 7 (by omega) g' hgb Try.prog _ ta_uint64
      rw [if_pos ⟨by omega, hc3⟩, hw] at hget
      have hget : res = (if goodD a b c D ws = true ∧ l[7] = 0#64 then (D, ws, true) else (noD, [], false)) := hget
      rw [aLoad_eq, ta_uint64, ts_uint64] at e7
      have kE : Kept g n g' m' := ⟨by omega, fun x hx => (hsame x (by omega)).trans (kH.same x hx), hd⟩
      have hlw := writesG_len l _ _ ws hw
      obtain ⟨xa, xe, rfl⟩ := hV.rd.form
      simp (maxSteps := 1000000) (disch := first | assumption | omega | rfl | decide | simp only [fitsR, Bool.and_self]) [↓rules, rules, ↓rulesDp, rulesDq, lit_u64, Int.ofNat_inj, stops, q_int, q_bool, q_uint64, q_A4_uint64, q_S_uint64, q_geo_Geo, q_api_Errno, q_state_Reply, q_S_wset_Write, q_opd_Desc, q_wset_Write, q_S_tag_Field, q_tag_Field, h1, h2, h4, h9, hg0, hrow]
      refine rcall_quiet rfl (opd_Good a b c D _ ws _ _ (by omega) hV.rd) ?_
      cases hgo : goodD a b c D ws
      · rw [if_neg (by rw [hgo]; rintro ⟨h, _⟩; cases h)] at hget
        subst hget
        simp (maxSteps := 1000000) (disch := first | assumption | omega | rfl | decide | simp only [fitsR, Bool.and_self]) [↓rules, rules, ↓rulesDp, rulesDq, lit_u64, Int.ofNat_inj, stops, q_int, q_bool, q_uint64, q_A4_uint64, q_S_uint64, q_geo_Geo, q_api_Errno, q_state_Reply, q_S_wset_Write, q_opd_Desc, q_wset_Write, q_S_tag_Field, q_tag_Field, h1, h2, h4, h9, hg0, hrow, hg1]
        refine sdone_ret (v := .tuple #[vD noD (.slice none 0 0), .bool false]) (by simp (maxSteps := 1000000) (disch := first | assumption | omega | rfl | decide | simp only [fitsR, Bool.and_self]) [↓rules, rules, ↓rulesDp, rulesDq, lit_u64, Int.ofNat_inj, stops, aResults, aRes, q_int, q_bool, q_uint64, q_A4_uint64, q_S_uint64, q_geo_Geo, q_api_Errno, q_state_Reply, q_S_wset_Write, q_opd_Desc, q_wset_Write, q_S_tag_Field, q_tag_Field, noD]) ⟨⟨_, rfl, Or.inl ⟨rfl, rfl⟩⟩, (by repeat first | exact kE | refine Kept.new ?_ _ | refine Kept.drop ?_ (by omega) | refine Kept.put ?_ (by omega) (by omega) _ | refine Kept.skip ?_)⟩
      by_cases c7 : l[7] = 0#64
      · rw [if_pos ⟨hgo, c7⟩] at hget
        subst hget
        simp (maxSteps := 1000000) (disch := first | assumption | omega | rfl | decide | simp only [fitsR, Bool.and_self]) [↓rules, rules, ↓rulesDp, rulesDq, lit_u64, Int.ofNat_inj, stops, q_int, q_bool, q_uint64, q_A4_uint64, q_S_uint64, q_geo_Geo, q_api_Errno, q_state_Reply, q_S_wset_Write, q_opd_Desc, q_wset_Write, q_S_tag_Field, q_tag_Field, h1, h2, h4, h9, hg0, hrow, hg1, e7, c7]
        refine sdone_ret (v := .tuple #[vD D (.slice xa ws.length xe), .bool true]) (by simp (maxSteps := 1000000) (disch := first | assumption | omega | rfl | decide | simp only [fitsR, Bool.and_self]) [↓rules, rules, ↓rulesDp, rulesDq, lit_u64, Int.ofNat_inj, stops, aResults, aRes, q_int, q_bool, q_uint64, q_A4_uint64, q_S_uint64, q_geo_Geo, q_api_Errno, q_state_Reply, q_S_wset_Write, q_opd_Desc, q_wset_Write, q_S_tag_Field, q_tag_Field]) ⟨⟨_, rfl, hV.put2 (by omega) (by omega)⟩, (by repeat first | exact kE | refine Kept.new ?_ _ | refine Kept.drop ?_ (by omega) | refine Kept.put ?_ (by omega) (by omega) _ | refine Kept.skip ?_)⟩
      · rw [if_neg (fun h => c7 h.2)] at hget
        subst hget
        simp (maxSteps := 1000000) (disch := first | assumption | omega | rfl | decide | simp only [fitsR, Bool.and_self]) [↓rules, rules, ↓rulesDp, rulesDq, lit_u64, Int.ofNat_inj, stops, q_int, q_bool, q_uint64, q_A4_uint64, q_S_uint64, q_geo_Geo, q_api_Errno, q_state_Reply, q_S_wset_Write, q_opd_Desc, q_wset_Write, q_S_tag_Field, q_tag_Field, h1, h2, h4, h9, hg0, hrow, hg1, e7, c7]
        refine sdone_ret (v := .tuple #[vD noD (.slice none 0 0), .bool false]) (by simp (maxSteps := 1000000) (disch := first | assumption | omega | rfl | decide | simp only [fitsR, Bool.and_self]) [↓rules, rules, ↓rulesDp, rulesDq, lit_u64, Int.ofNat_inj, stops, aResults, aRes, q_int, q_bool, q_uint64, q_A4_uint64, q_S_uint64, q_geo_Geo, q_api_Errno, q_state_Reply, q_S_wset_Write, q_opd_Desc, q_wset_Write, q_S_tag_Field, q_tag_Field, noD]) ⟨⟨_, rfl, Or.inl ⟨rfl, rfl⟩⟩, (by repeat first | exact kE | refine Kept.new ?_ _ | refine Kept.drop ?_ (by omega) | refine Kept.put ?_ (by omega) (by omega) _ | refine Kept.skip ?_)⟩
end Go.Proofs.Ytafpgojoemcgnaa.F24
