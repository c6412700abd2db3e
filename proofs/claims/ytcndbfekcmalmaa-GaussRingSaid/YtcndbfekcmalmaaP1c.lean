/- Contracts of functions: what each one returns, and what it leaves. No statement is proved here. -/
import Derived.Test.YtcndbfekcmalmaaP1b
set_option linter.unusedVariables false
set_option linter.unusedSimpArgs false
namespace Go.Proofs.Ytcndbfekcmalmaa.F1
open Go Go.Proofs Go.Proofs.YtcndbfekcmalmaaAbs Go.Proofs.YtcndbfekcmalmaaAbs.Flt
set_option maxHeartbeats 4000000
set_option maxRecDepth 100000
abbrev cvI (z : Int × Int) : Value := cv (nearF z.1) (nearF z.2)
def inB (B : Nat) (z : Int × Int) : Prop := z.1.natAbs ≤ B ∧ z.2.natAbs ≤ B
def mulP (z w : Int × Int) : Int × Int := mulI z.1 z.2 w.1 w.2
theorem inB_inZ {B : Nat} {z : Int × Int} (h : inB B z) (hB : B ≤ 1099511627776) : inZ z.1 = true ∧ inZ z.2 = true := by
  obtain ⟨h1, h2⟩ := h
  exact ⟨decide_eq_true (by omega), decide_eq_true (by omega)⟩
theorem inB_small {B : Nat} {z : Int × Int} (h : inB B z) (hB : B ≤ 1073741824) : smallZ z.1 z.2 = true := by
  obtain ⟨h1, h2⟩ := h
  exact decide_eq_true (by omega)
theorem mul_abs {a b : Int} {A B : Nat} (h1 : a.natAbs ≤ A) (h2 : b.natAbs ≤ B) : (a * b).natAbs ≤ A * B := by rw [Int.natAbs_mul]; exact Nat.mul_le_mul h1 h2
theorem mulP_in {A B C : Nat} {z w : Int × Int} (h : inB A z) (h' : inB B w) (hC : 2 * (A * B) ≤ C) : inB C (mulP z w) := by
  have p1 := mul_abs h.1 h'.1
  have p2 := mul_abs h.2 h'.2
  have p3 := mul_abs h.1 h'.2
  have p4 := mul_abs h.2 h'.1
  generalize A * B = AB at *
  unfold mulP mulI inB
  constructor
  · simp only; omega
  · simp only; omega
theorem add_in {A B C : Nat} {z w : Int × Int} (h : inB A z) (h' : inB B w) (hC : A + B ≤ C) : inB C (z.1 + w.1, z.2 + w.2) := by
  obtain ⟨h1, h2⟩ := h
  obtain ⟨h3, h4⟩ := h'
  constructor
  · simp only; omega
  · simp only; omega
theorem mulZ_near {A B : Nat} {z w : Int × Int} (h : inB A z) (h' : inB B w) (hA : A ≤ 1073741824) (hB : B ≤ 1073741824) (hC : 2 * (A * B) ≤ 1099511627776) : mulZ (nearF z.1) (nearF z.2) (nearF w.1) (nearF w.2) = (nearF (mulP z w).1, nearF (mulP z w).2, true) := by
  have i1 := inB_inZ h (by omega)
  have i2 := inB_inZ h' (by omega)
  have i3 := inB_inZ (mulP_in h h' (Nat.le_refl _)) hC
  unfold mulZ
  rw [partsZ_near i1.1 i1.2, partsZ_near i2.1 i2.2, if_pos ⟨rfl, rfl, inB_small h hA, inB_small h' hB⟩]
  exact ofZ_yes i3.1 i3.2
theorem gauss_MulN {z w : Int × Int} (A B : Nat) (h : inB A z) (h' : inB B w) (hA : A ≤ 1073741824) (hB : B ≤ 1073741824) (hC : 2 * (A * B) ≤ 1099511627776) (g : AMem) (n : Nat) : FnC Try.prog f_gauss_Mul [cvI z, cvI w] g n (fun _ => False) (.tuple #[cvI (mulP z w), .bool true]) g n := by
  have i1 := inB_inZ h (by omega)
  have i2 := inB_inZ h' (by omega)
  have := gauss_Mul (inZ_ok i1.1) (inZ_ok i1.2) (inZ_ok i2.1) (inZ_ok i2.2) g n
  rwa [mulZ_near h h' hA hB hC] at this
theorem gauss_AddN {z w : Int × Int} (A B : Nat) (h : inB A z) (h' : inB B w) (hC : A + B ≤ 1099511627776) (g : AMem) (n : Nat) : FnC Try.prog f_gauss_Add [cvI z, cvI w] g n (fun _ => False) (.tuple #[cvI (z.1 + w.1, z.2 + w.2), .bool true]) g n := by
  have i1 := inB_inZ h (by omega)
  have i2 := inB_inZ h' (by omega)
  have i3 := inB_inZ (add_in h h' (Nat.le_refl _)) hC
  have := gauss_Add (inZ_ok i1.1) (inZ_ok i1.2) (inZ_ok i2.1) (inZ_ok i2.2) g n
  unfold addZ at this
  rw [partsZ_near i1.1 i1.2, partsZ_near i2.1 i2.2, if_pos ⟨rfl, rfl⟩, ofZ_yes i3.1 i3.2] at this
  exact this
theorem gauss_NormN {z : Int × Int} (A : Nat) (h : inB A z) (hA : A ≤ 1073741824) (g : AMem) (n : Nat) : FnC Try.prog f_gauss_Norm [cvI z] g n (fun _ => False) (.int .i64 (z.1 * z.1 + z.2 * z.2)) g n := by
  have i1 := inB_inZ h (by omega)
  have := gauss_Norm (inZ_ok i1.1) (inZ_ok i1.2) g n
  unfold normZ at this
  rw [partsZ_near i1.1 i1.2, if_pos ⟨rfl, inB_small h hA⟩] at this
  exact this
theorem gauss_OfN {z : Int × Int} (A : Nat) (h : inB A z) (hA : A ≤ 1099511627776) (g : AMem) (n : Nat) : FnC Try.prog f_gauss_Of [.int .i64 z.1, .int .i64 z.2] g n (fun _ => False) (.tuple #[cvI z, .bool true]) g n := by
  have i1 := inB_inZ h (by omega)
  have := gauss_Of z.1 z.2 g n
  rwa [ofZ_yes i1.1 i1.2] at this
theorem norm_in {A C : Nat} {z : Int × Int} (h : inB A z) (hC : 2 * (A * A) ≤ C) : 0 ≤ z.1 * z.1 + z.2 * z.2 ∧ z.1 * z.1 + z.2 * z.2 ≤ C := by
  have p1 := mul_abs h.1 h.1
  have p2 := mul_abs h.2 h.2
  have q1 := Int.natAbs_mul_self (a := z.1)
  have q2 := Int.natAbs_mul_self (a := z.2)
  generalize A * A = AA at *
  omega
theorem tdiv_in (a : Int) (m : Nat) (A : Nat) (h : a.natAbs / m ≤ A) : (a.tdiv m).natAbs ≤ A := by rw [Int.natAbs_tdiv]; exact h
theorem GaussRing (a b c d e f : Int) (g : AMem) (n : Nat) (hdom : ∀ i, g i ≠ none → i < n) (_ : -2147483648 ≤ a) (_ : a ≤ 2147483647) (_ : -2147483648 ≤ b) (_ : b ≤ 2147483647) (_ : -32768 ≤ c) (_ : c ≤ 32767) (_ : -32768 ≤ d) (_ : d ≤ 32767) (_ : -32768 ≤ e) (_ : e ≤ 32767) (_ : -32768 ≤ f) (_ : f ≤ 32767) :
    FnC Try.prog f_reevelaw1_GaussRing [.int .i32 a, .int .i32 b, .int .i16 c, .int .i16 d, .int .i16 e, .int .i16 f] g n (fun _ => False) (.bool true) g n := by
  refine fnC_of_rwp t_reevelaw1_GaussRing hm rfl fun hdom => ?_
  have wa : IntKind.i64.wrap a = a := wrap_i64 (by omega) (by omega)
  have wb : IntKind.i64.wrap b = b := wrap_i64 (by omega) (by omega)
  have wc : IntKind.i64.wrap c = c := wrap_i64 (by omega) (by omega)
  have wd : IntKind.i64.wrap d = d := wrap_i64 (by omega) (by omega)
  have we : IntKind.i64.wrap e = e := wrap_i64 (by omega) (by omega)
  have wf : IntKind.i64.wrap f = f := wrap_i64 (by omega) (by omega)
  have da : (a.tdiv 4096).natAbs ≤ 524288 := tdiv_in a 4096 _ (by omega)
  have db : (b.tdiv 4096).natAbs ≤ 524288 := tdiv_in b 4096 _ (by omega)
  have dc : (c.tdiv 256).natAbs ≤ 128 := tdiv_in c 256 _ (by omega)
  have dd : (d.tdiv 256).natAbs ≤ 128 := tdiv_in d 256 _ (by omega)
  have de : (e.tdiv 256).natAbs ≤ 128 := tdiv_in e 256 _ (by omega)
  have df : (f.tdiv 256).natAbs ≤ 128 := tdiv_in f 256 _ (by omega)
  have va : IntKind.i64.wrap (a.tdiv 4096) = a.tdiv 4096 := wrap_i64 (by omega) (by omega)
  have vb : IntKind.i64.wrap (b.tdiv 4096) = b.tdiv 4096 := wrap_i64 (by omega) (by omega)
  have vc : IntKind.i64.wrap (c.tdiv 256) = c.tdiv 256 := wrap_i64 (by omega) (by omega)
  have vd : IntKind.i64.wrap (d.tdiv 256) = d.tdiv 256 := wrap_i64 (by omega) (by omega)
  have ve : IntKind.i64.wrap (e.tdiv 256) = e.tdiv 256 := wrap_i64 (by omega) (by omega)
  have vf : IntKind.i64.wrap (f.tdiv 256) = f.tdiv 256 := wrap_i64 (by omega) (by omega)
  simp (maxSteps := 1000000) (disch := first | assumption | omega | rfl | decide | simp only [fitsR, Bool.and_self]) [↓rules, rules, ↓rulesDp, rulesDq, lit_u64, Int.ofNat_inj, stops, rc_reevelaw1_GaussRing, q_int64, q_bool, q_int32, q_complex128, q_int16]
  refine rcall_quiet rfl (awake1 _ _) ?_
  have hx : inB 524288 (a.tdiv 4096, b.tdiv 4096) := ⟨da, db⟩
  have hy : inB 128 (c.tdiv 256, d.tdiv 256) := ⟨dc, dd⟩
  have hz : inB 128 (e.tdiv 256, f.tdiv 256) := ⟨de, df⟩
  simp (maxSteps := 1000000) (disch := first | assumption | omega | rfl | decide | simp only [fitsR, Bool.and_self]) [↓rules, rules, ↓rulesDp, rulesDq, lit_u64, Int.ofNat_inj, stops, q_int64, q_bool, q_int32, q_complex128, q_int16, conv_int tu_int32 tu_int64, bin_quo, wa, wb, va, vb]
  refine rcall_quiet rfl (gauss_OfN _ hx (by decide) _ _) ?_
  simp (maxSteps := 1000000) (disch := first | assumption | omega | rfl | decide | simp only [fitsR, Bool.and_self]) [↓rules, rules, ↓rulesDp, rulesDq, lit_u64, Int.ofNat_inj, stops, q_int64, q_bool, q_int32, q_complex128, q_int16, conv_int tu_int16 tu_int64, bin_quo, wc, wd, vc, vd]
  refine rcall_quiet rfl (gauss_OfN _ hy (by decide) _ _) ?_
  simp (maxSteps := 1000000) (disch := first | assumption | omega | rfl | decide | simp only [fitsR, Bool.and_self]) [↓rules, rules, ↓rulesDp, rulesDq, lit_u64, Int.ofNat_inj, stops, q_int64, q_bool, q_int32, q_complex128, q_int16, conv_int tu_int16 tu_int64, bin_quo, we, wf, ve, vf]
  refine rcall_quiet rfl (gauss_OfN _ hz (by decide) _ _) ?_
  clear va vb vc vd ve vf
  generalize hx0 : (a.tdiv 4096, b.tdiv 4096) = x at hx
  generalize hy0 : (c.tdiv 256, d.tdiv 256) = y at hy
  generalize hz0 : (e.tdiv 256, f.tdiv 256) = z at hz
  have ex := congrArg Prod.fst hx0; have ex' := congrArg Prod.snd hx0
  have ey := congrArg Prod.fst hy0; have ey' := congrArg Prod.snd hy0
  have ez := congrArg Prod.fst hz0; have ez' := congrArg Prod.snd hz0
  simp only at ex ex' ey ey' ez ez'
  have hxy : inB 134217728 (mulP x y) := mulP_in hx hy (by decide)
  have hyz : inB 32768 (mulP y z) := mulP_in hy hz (by decide)
  have hxz : inB 134217728 (mulP x z) := mulP_in hx hz (by decide)
  have hsum : inB 256 (y.1 + z.1, y.2 + z.2) := add_in hy hz (by decide)
  have hl : inB 34359738368 (mulP (mulP x y) z) := mulP_in hxy hz (by decide)
  have e1 : mulP y x = mulP x y := mul_comm' _ _ _ _
  have e2 : mulP x (mulP y z) = mulP (mulP x y) z := (mul_assoc' _ _ _ _ _ _).symm
  have e3 : mulP x (y.1 + z.1, y.2 + z.2) = ((mulP x y).1 + (mulP x z).1, (mulP x y).2 + (mulP x z).2) := mul_dist _ _ _ _ _ _
  have e4 : (mulP x y).1 * (mulP x y).1 + (mulP x y).2 * (mulP x y).2 = (x.1 * x.1 + x.2 * x.2) * (y.1 * y.1 + y.2 * y.2) := mul_norm _ _ _ _
  have hright : inB 268435456 ((mulP x y).1 + (mulP x z).1, (mulP x y).2 + (mulP x z).2) := add_in hxy hxz (by decide)
  have n1 := norm_in hx (C := 549755813888) (by decide)
  have n2 := norm_in hy (C := 32768) (by decide)
  have n3 := norm_in hxy (C := 36028797018963968) (by decide)
  have q1 := inB_inZ hxy (by decide); have q2 := inB_inZ hl (by decide); have q3 := inB_inZ hright (by decide)
  have f1 := same_eq q1.1; have f1' := same_eq q1.2
  have f2 := same_eq q2.1; have f2' := same_eq q2.2
  have f3 := same_eq q3.1; have f3' := same_eq q3.2
  simp only at f3 f3'
  have wn : IntKind.i64.wrap ((x.1 * x.1 + x.2 * x.2) * (y.1 * y.1 + y.2 * y.2)) = (x.1 * x.1 + x.2 * x.2) * (y.1 * y.1 + y.2 * y.2) := by
    rw [← e4]; exact wrap_i64 (by omega) (by omega)
  simp (maxSteps := 1000000) (disch := first | assumption | omega | rfl | decide | simp only [fitsR, Bool.and_self]) [↓rules, rules, ↓rulesDp, rulesDq, lit_u64, Int.ofNat_inj, stops, q_int64, q_bool, q_int32, q_complex128, q_int16, ex, ex', ey, ey', ez, ez']
  refine rcall_quiet rfl (gauss_MulN _ _ hx hy (by decide) (by decide) (by decide) _ _) ?_
  simp (maxSteps := 1000000) (disch := first | assumption | omega | rfl | decide | simp only [fitsR, Bool.and_self]) [↓rules, rules, ↓rulesDp, rulesDq, lit_u64, Int.ofNat_inj, stops, q_int64, q_bool, q_int32, q_complex128, q_int16]
  refine rcall_quiet rfl (gauss_MulN _ _ hy hx (by decide) (by decide) (by decide) _ _) ?_
  rw [e1]
  simp (maxSteps := 1000000) (disch := first | assumption | omega | rfl | decide | simp only [fitsR, Bool.and_self]) [↓rules, rules, ↓rulesDp, rulesDq, lit_u64, Int.ofNat_inj, stops, q_int64, q_bool, q_int32, q_complex128, q_int16]
  refine rcall_quiet rfl (gauss_MulN _ _ hy hz (by decide) (by decide) (by decide) _ _) ?_
  simp (maxSteps := 1000000) (disch := first | assumption | omega | rfl | decide | simp only [fitsR, Bool.and_self]) [↓rules, rules, ↓rulesDp, rulesDq, lit_u64, Int.ofNat_inj, stops, q_int64, q_bool, q_int32, q_complex128, q_int16]
  refine rcall_quiet rfl (gauss_MulN _ _ hxy hz (by decide) (by decide) (by decide) _ _) ?_
  simp (maxSteps := 1000000) (disch := first | assumption | omega | rfl | decide | simp only [fitsR, Bool.and_self]) [↓rules, rules, ↓rulesDp, rulesDq, lit_u64, Int.ofNat_inj, stops, q_int64, q_bool, q_int32, q_complex128, q_int16]
  refine rcall_quiet rfl (gauss_MulN _ _ hx hyz (by decide) (by decide) (by decide) _ _) ?_
  rw [e2]
  simp (maxSteps := 1000000) (disch := first | assumption | omega | rfl | decide | simp only [fitsR, Bool.and_self]) [↓rules, rules, ↓rulesDp, rulesDq, lit_u64, Int.ofNat_inj, stops, q_int64, q_bool, q_int32, q_complex128, q_int16]
  refine rcall_quiet rfl (gauss_AddN _ _ hy hz (by decide) _ _) ?_
  simp (maxSteps := 1000000) (disch := first | assumption | omega | rfl | decide | simp only [fitsR, Bool.and_self]) [↓rules, rules, ↓rulesDp, rulesDq, lit_u64, Int.ofNat_inj, stops, q_int64, q_bool, q_int32, q_complex128, q_int16]
  refine rcall_quiet rfl (gauss_MulN _ _ hx hsum (by decide) (by decide) (by decide) _ _) ?_
  rw [e3]
  simp (maxSteps := 1000000) (disch := first | assumption | omega | rfl | decide | simp only [fitsR, Bool.and_self]) [↓rules, rules, ↓rulesDp, rulesDq, lit_u64, Int.ofNat_inj, stops, q_int64, q_bool, q_int32, q_complex128, q_int16]
  refine rcall_quiet rfl (gauss_MulN _ _ hx hz (by decide) (by decide) (by decide) _ _) ?_
  simp (maxSteps := 1000000) (disch := first | assumption | omega | rfl | decide | simp only [fitsR, Bool.and_self]) [↓rules, rules, ↓rulesDp, rulesDq, lit_u64, Int.ofNat_inj, stops, q_int64, q_bool, q_int32, q_complex128, q_int16]
  refine rcall_quiet rfl (gauss_AddN _ _ hxy hxz (by decide) _ _) ?_
  simp (maxSteps := 1000000) (disch := first | assumption | omega | rfl | decide | simp only [fitsR, Bool.and_self]) [↓rules, rules, ↓rulesDp, rulesDq, lit_u64, Int.ofNat_inj, stops, q_int64, q_bool, q_int32, q_complex128, q_int16, rulesF, f1, f1', f2, f2', f3, f3']
  refine rcall_quiet rfl (gauss_NormN _ hxy (by decide) _ _) ?_
  rw [e4]
  simp (maxSteps := 1000000) (disch := first | assumption | omega | rfl | decide | simp only [fitsR, Bool.and_self]) [↓rules, rules, ↓rulesDp, rulesDq, lit_u64, Int.ofNat_inj, stops, q_int64, q_bool, q_int32, q_complex128, q_int16]
  refine rcall_quiet rfl (gauss_NormN _ hx (by decide) _ _) ?_
  simp (maxSteps := 1000000) (disch := first | assumption | omega | rfl | decide | simp only [fitsR, Bool.and_self]) [↓rules, rules, ↓rulesDp, rulesDq, lit_u64, Int.ofNat_inj, stops, q_int64, q_bool, q_int32, q_complex128, q_int16]
  refine rcall_quiet rfl (gauss_NormN _ hy (by decide) _ _) ?_
  simp (maxSteps := 1000000) (disch := first | assumption | omega | rfl | decide | simp only [fitsR, Bool.and_self]) [↓rules, rules, ↓rulesDp, rulesDq, lit_u64, Int.ofNat_inj, stops, q_int64, q_bool, q_int32, q_complex128, q_int16, wn]
  exact done_q hdom (Kept.refl hdom) rfl rfl
end Go.Proofs.Ytcndbfekcmalmaa.F1
