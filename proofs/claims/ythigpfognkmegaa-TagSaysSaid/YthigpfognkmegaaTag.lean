/- Contracts of functions: what each one returns, and what it leaves. No statement is proved here. -/
import Derived.Test.YthigpfognkmegaaGeo
set_option linter.unusedVariables false
set_option linter.unusedSimpArgs false
namespace Go.Proofs.Ythigpfognkmegaa.F
open Go Go.Proofs Go.Proofs.YthigpfognkmegaaAbs
def M (a b : Int) : BitVec 64 := ((1#64 <<< b.toNat) - 1#64) <<< a.toNat
set_option maxHeartbeats 2000000
theorem mask (a b : Int) (ha : 0 ≤ a) (hb : 0 ≤ b) (g : AMem) (n : Nat) : FnC Try.prog 46 [.agg #[.int .i64 a, .int .i64 b]] g n (fun _ => False) (U (M a b)) g n := by
  refine fnC_of_rwp t46 hm rfl fun hdom => ?_
  simp (maxSteps := 1000000) (disch := first | assumption | omega | rfl | decide) [↓rules, rules, lit_u64, aEval_U, splice_nil, splice_zero, splice_step, gset_gset, Int.ofNat_inj, U_junk, U_cells, U_cellOk, ub_and, ub_or, ub_xor, ub_andNot, ub_add, ub_sub, ub_mul, ub_shl, ub_shr, ub_shl', ub_shr', ub_eql, ub_neq, ub_lss, ub_leq, ub_gtr, ub_geq, rc46, tf34_0, tf34_1, ta3, ts3]
  refine done_q hdom ((Kept.refl hdom).new _) ?_ ?_ <;> rfl
abbrev okF (a b : Int) (w : BitVec 64) : Prop := 0 ≤ a ∧ a < 64 ∧ 1 ≤ b ∧ b ≤ 64 - a ∧ w &&& M a b = 0#64
/-- All fields' bits. -/
def allF : List (Int × Int) → BitVec 64 → BitVec 64 × Bool
  | [], w => (w, true)
  | f :: fs, w => if okF f.1 f.2 w then allF fs (w ||| M f.1 f.2) else (0#64, false)
def encF (f : Int × Int) : List Value := [.int .i64 f.1, .int .i64 f.2]
def fOk (f : Int × Int) : Prop := -9223372036854775808 ≤ f.1 ∧ f.1 ≤ 9223372036854775807 ∧ -9223372036854775808 ≤ f.2 ∧ f.2 ≤ 9223372036854775807
theorem all (v : Value) (fs : List (Int × Int)) (g : AMem) (n : Nat) (hl : fs.length < 4611686018427387904) (hfo : ∀ f ∈ fs, fOk f) (hv : Rd g 2 encF v fs) : FnC Try.prog 45 [v] g n (fun _ => False) (.tuple #[U (allF fs 0#64).1, .bool (allF fs 0#64).2]) g n := by
  refine fnC_of_rwp t45 hm rfl fun hdom => ?_
  obtain ⟨a, e', hvf⟩ := hv.form
  simp (maxSteps := 1000000) (disch := first | assumption | omega | rfl | decide) [↓rules, rules, lit_u64, aEval_U, splice_nil, splice_zero, splice_step, gset_gset, Int.ofNat_inj, U_junk, U_cells, U_cellOk, ub_and, ub_or, ub_xor, ub_andNot, ub_add, ub_sub, ub_mul, ub_shl, ub_shr, ub_shl', ub_shr', ub_eql, ub_neq, ub_lss, ub_leq, ub_gtr, ub_geq, rc45, hvf, tu22]
  refine rwp_loop (fun k l g' n' => ∃ i w, k = fs.length - i ∧ i ≤ fs.length ∧ Kept g n g' n' ∧ allF (fs.drop i) w = allF fs 0#64 ∧ l = [(4, U w), (7, v), (8, .int .i64 fs.length), (9, .int .i64 i)]) ?_ (k := fs.length) ?_
  · rintro k l g' n' ⟨i, w, rfl, hi, hk, hw, rfl⟩
    simp (maxSteps := 1000000) (disch := first | assumption | omega | rfl | decide) [↓rules, rules, lit_u64, aEval_U, splice_nil, splice_zero, splice_step, gset_gset, Int.ofNat_inj, U_junk, U_cells, U_cellOk, ub_and, ub_or, ub_xor, ub_andNot, ub_add, ub_sub, ub_mul, ub_shl, ub_shr, ub_shl', ub_shr', ub_eql, ub_neq, ub_lss, ub_leq, ub_gtr, ub_geq, rc45l0]
    refine rcond_dec (fun hlt => ?_) (fun hlt => ?_)
    · have hlt : i < fs.length := by omega
      obtain ⟨b, o, cs, rw_, h1, h2, h3, h4, h5⟩ := hv.elem (fun _ => rfl) hlt
      have hb : b < n := hdom b (by rw [h2]; simp)
      have hn := hk.le
      have hbn : b ≠ n' := by omega
      have h2' : g' b = some (.row cs rw_) := by rw [hk.same b hb, h2]
      have hdrop : fs.drop i = fs[i] :: fs.drop (i + 1) := List.drop_eq_getElem_cons hlt
      have hf := hfo fs[i] (List.getElem_mem hlt)
      generalize fs[i] = f at *
      obtain ⟨p, q⟩ := f
      obtain ⟨hf1, hf2, hf3, hf4⟩ := hf
      simp only at hf1 hf2 hf3 hf4
      rw [hdrop, allF] at hw
      have hld := load_elem (P := Try.prog) h2' ta34 ts34 h3 h4
      simp (maxSteps := 1000000) (disch := first | assumption | omega | rfl | decide) [↓rules, rules, lit_u64, aEval_U, splice_nil, splice_zero, splice_step, gset_gset, Int.ofNat_inj, U_junk, U_cells, U_cellOk, ub_and, ub_or, ub_xor, ub_andNot, ub_add, ub_sub, ub_mul, ub_shl, ub_shr, ub_shl', ub_shr', ub_eql, ub_neq, ub_lss, ub_leq, ub_gtr, ub_geq, h1, tu22, ts34, hlt, hld, encF, tz34]
      refine ⟨hn, ?_⟩
      have bad : ¬ okF p q w → allF fs 0#64 = (0#64, false) := fun h => by rw [← hw, if_neg h]
      have kn := (hk.new (.row [.int .i64 p, .int .i64 q] true))
      by_cases c1 : p < 0
      · simp (maxSteps := 1000000) (disch := first | assumption | omega | rfl | decide) [↓rules, rules, lit_u64, aEval_U, splice_nil, splice_zero, splice_step, gset_gset, Int.ofNat_inj, U_junk, U_cells, U_cellOk, ub_and, ub_or, ub_xor, ub_andNot, ub_add, ub_sub, ub_mul, ub_shl, ub_shr, ub_shl', ub_shr', ub_eql, ub_neq, ub_lss, ub_leq, ub_gtr, ub_geq, tf34_0, tf34_1, ta3, ts3, c1]
        refine done_q hdom kn ?_ ?_; · rfl
        rw [bad (by unfold okF; omega)]; rfl
      by_cases c2 : 64 ≤ p
      · simp (maxSteps := 1000000) (disch := first | assumption | omega | rfl | decide) [↓rules, rules, lit_u64, aEval_U, splice_nil, splice_zero, splice_step, gset_gset, Int.ofNat_inj, U_junk, U_cells, U_cellOk, ub_and, ub_or, ub_xor, ub_andNot, ub_add, ub_sub, ub_mul, ub_shl, ub_shr, ub_shl', ub_shr', ub_eql, ub_neq, ub_lss, ub_leq, ub_gtr, ub_geq, tf34_0, tf34_1, ta3, ts3, c1, c2]
        refine done_q hdom kn ?_ ?_; · rfl
        rw [bad (by unfold okF; omega)]; rfl
      by_cases c3 : q < 1
      · simp (maxSteps := 1000000) (disch := first | assumption | omega | rfl | decide) [↓rules, rules, lit_u64, aEval_U, splice_nil, splice_zero, splice_step, gset_gset, Int.ofNat_inj, U_junk, U_cells, U_cellOk, ub_and, ub_or, ub_xor, ub_andNot, ub_add, ub_sub, ub_mul, ub_shl, ub_shr, ub_shl', ub_shr', ub_eql, ub_neq, ub_lss, ub_leq, ub_gtr, ub_geq, tf34_0, tf34_1, ta3, ts3, c1, c2, c3]
        refine done_q hdom kn ?_ ?_; · rfl
        rw [bad (by unfold okF; omega)]; rfl
      by_cases c4 : 64 - p < q
      · simp (maxSteps := 1000000) (disch := first | assumption | omega | rfl | decide) [↓rules, rules, lit_u64, aEval_U, splice_nil, splice_zero, splice_step, gset_gset, Int.ofNat_inj, U_junk, U_cells, U_cellOk, ub_and, ub_or, ub_xor, ub_andNot, ub_add, ub_sub, ub_mul, ub_shl, ub_shr, ub_shl', ub_shr', ub_eql, ub_neq, ub_lss, ub_leq, ub_gtr, ub_geq, tf34_0, tf34_1, ta3, ts3, c1, c2, c3, wrap_i64, c4]
        refine done_q hdom kn ?_ ?_; · rfl
        rw [bad (by unfold okF; omega)]; rfl
      simp (maxSteps := 1000000) (disch := first | assumption | omega | rfl | decide) [↓rules, rules, lit_u64, aEval_U, splice_nil, splice_zero, splice_step, gset_gset, Int.ofNat_inj, U_junk, U_cells, U_cellOk, ub_and, ub_or, ub_xor, ub_andNot, ub_add, ub_sub, ub_mul, ub_shl, ub_shr, ub_shl', ub_shr', ub_eql, ub_neq, ub_lss, ub_leq, ub_gtr, ub_geq, tf34_0, tf34_1, ta3, ts3, c1, c2, c3, wrap_i64, c4, ta34, ts34]
      refine rcall_quiet rfl (mask p q (by omega) (by omega) _ _) ?_
      simp (maxSteps := 1000000) (disch := first | assumption | omega | rfl | decide) [↓rules, rules, lit_u64, aEval_U, splice_nil, splice_zero, splice_step, gset_gset, Int.ofNat_inj, U_junk, U_cells, U_cellOk, ub_and, ub_or, ub_xor, ub_andNot, ub_add, ub_sub, ub_mul, ub_shl, ub_shr, ub_shl', ub_shr', ub_eql, ub_neq, ub_lss, ub_leq, ub_gtr, ub_geq]
      refine rcond_bool (fun c5 => ?_) (fun c5 => ?_)
      · refine done_q hdom kn ?_ ?_; · rfl
        rw [bad (by unfold okF; intro h; simp [h.2.2.2.2] at c5)]; rfl
      · have good : okF p q w := by unfold okF; refine ⟨by omega, by omega, by omega, by omega, ?_⟩; simpa using c5
        simp (maxSteps := 1000000) (disch := first | assumption | omega | rfl | decide) [↓rules, rules, lit_u64, aEval_U, splice_nil, splice_zero, splice_step, gset_gset, Int.ofNat_inj, U_junk, U_cells, U_cellOk, ub_and, ub_or, ub_xor, ub_andNot, ub_add, ub_sub, ub_mul, ub_shl, ub_shr, ub_shl', ub_shr', ub_eql, ub_neq, ub_lss, ub_leq, ub_gtr, ub_geq, ta34, ts34]
        refine rcall_quiet rfl (mask p q (by omega) (by omega) _ _) ?_
        simp (maxSteps := 1000000) (disch := first | assumption | omega | rfl | decide) [↓rules, rules, lit_u64, aEval_U, splice_nil, splice_zero, splice_step, gset_gset, Int.ofNat_inj, U_junk, U_cells, U_cellOk, ub_and, ub_or, ub_xor, ub_andNot, ub_add, ub_sub, ub_mul, ub_shl, ub_shr, ub_shl', ub_shr', ub_eql, ub_neq, ub_lss, ub_leq, ub_gtr, ub_geq, wrap_i64]
        refine ⟨fs.length - (i + 1), by omega, i + 1, rfl, by omega, kn, w ||| M p q, ?_, by simp⟩
        rw [← hw, if_pos good]
    · refine done_q hdom hk ?_ ?_; · rfl
      have : i = fs.length := by omega
      subst this
      rw [List.drop_length, allF] at hw
      rw [← hw]; rfl
  · exact ⟨0, 0#64, by simp, by simp, Kept.refl hdom, by simp, by rw [← hvf]; rfl⟩

def goodF (fs : List (Int × Int)) : Bool := (allF fs 0#64).2
abbrev rdF (g : AMem) (v : Value) (fs : List (Int × Int)) : Prop := Rd g 2 encF v fs
abbrev rdW (g : AMem) (v : Value) (ws : List (BitVec 64)) : Prop := Rd g 1 (fun w => [U w]) v ws
theorem Good (v : Value) (fs : List (Int × Int)) (g : AMem) (n : Nat) (hl : fs.length < 4611686018427387904) (hfo : ∀ f ∈ fs, fOk f) (hv : rdF g v fs) : FnC Try.prog 12 [v] g n (fun _ => False) (.bool (goodF fs)) g n := by
  refine fnC_of_rwp t12 hm rfl fun hdom => ?_
  simp (maxSteps := 1000000) (disch := first | assumption | omega | rfl | decide) [↓rules, rules, lit_u64, aEval_U, splice_nil, splice_zero, splice_step, gset_gset, Int.ofNat_inj, U_junk, U_cells, U_cellOk, ub_and, ub_or, ub_xor, ub_andNot, ub_add, ub_sub, ub_mul, ub_shl, ub_shr, ub_shl', ub_shr', ub_eql, ub_neq, ub_lss, ub_leq, ub_gtr, ub_geq, rc12]
  refine rcall_quiet rfl (all v fs g n hl hfo hv) ?_
  simp (maxSteps := 1000000) (disch := first | assumption | omega | rfl | decide) [↓rules, rules, lit_u64, aEval_U, splice_nil, splice_zero, splice_step, gset_gset, Int.ofNat_inj, U_junk, U_cells, U_cellOk, ub_and, ub_or, ub_xor, ub_andNot, ub_add, ub_sub, ub_mul, ub_shl, ub_shr, ub_shl', ub_shr', ub_eql, ub_neq, ub_lss, ub_leq, ub_gtr, ub_geq]
  refine done_q hdom (Kept.refl hdom) ?_ ?_ <;> rfl
theorem Rest (w : BitVec 64) (v : Value) (fs : List (Int × Int)) (g : AMem) (n : Nat) (hl : fs.length < 4611686018427387904) (hfo : ∀ f ∈ fs, fOk f) (hv : rdF g v fs) : FnC Try.prog 15 [U w, v] g n (fun _ => False) (U (w &&& ~~~ (allF fs 0#64).1)) g n := by
  refine fnC_of_rwp t15 hm rfl fun hdom => ?_
  simp (maxSteps := 1000000) (disch := first | assumption | omega | rfl | decide) [↓rules, rules, lit_u64, aEval_U, splice_nil, splice_zero, splice_step, gset_gset, Int.ofNat_inj, U_junk, U_cells, U_cellOk, ub_and, ub_or, ub_xor, ub_andNot, ub_add, ub_sub, ub_mul, ub_shl, ub_shr, ub_shl', ub_shr', ub_eql, ub_neq, ub_lss, ub_leq, ub_gtr, ub_geq, rc15]
  refine rcall_quiet rfl (all v fs g n hl hfo hv) ?_
  simp (maxSteps := 1000000) (disch := first | assumption | omega | rfl | decide) [↓rules, rules, lit_u64, aEval_U, splice_nil, splice_zero, splice_step, gset_gset, Int.ofNat_inj, U_junk, U_cells, U_cellOk, ub_and, ub_or, ub_xor, ub_andNot, ub_add, ub_sub, ub_mul, ub_shl, ub_shr, ub_shl', ub_shr', ub_eql, ub_neq, ub_lss, ub_leq, ub_gtr, ub_geq]
  refine done_q hdom (Kept.refl hdom) ?_ ?_ <;> rfl
theorem words (va vb : Value) (xs ys : List (BitVec 64)) (g : AMem) (n : Nat) (hl : xs.length < 4611686018427387904) (hl' : ys.length < 4611686018427387904) (ha : rdW g va xs) (hb : rdW g vb ys) : FnC Try.prog 16 [va, vb] g n (fun _ => False) (.bool (decide (xs = ys))) g n := by
  refine fnC_of_rwp t16 hm rfl fun hdom => ?_
  obtain ⟨a, ea, hva⟩ := ha.form
  obtain ⟨b, eb, hvb⟩ := hb.form
  by_cases hne : xs.length = ys.length
  case neg =>
    simp (maxSteps := 1000000) (disch := first | assumption | omega | rfl | decide) [↓rules, rules, lit_u64, aEval_U, splice_nil, splice_zero, splice_step, gset_gset, Int.ofNat_inj, U_junk, U_cells, U_cellOk, ub_and, ub_or, ub_xor, ub_andNot, ub_add, ub_sub, ub_mul, ub_shl, ub_shr, ub_shl', ub_shr', ub_eql, ub_neq, ub_lss, ub_leq, ub_gtr, ub_geq, rc16, hva, hvb, tu26, hne]
    refine done_q hdom (Kept.refl hdom) ?_ ?_; · rfl
    rw [show decide (xs = ys) = false by simp only [decide_eq_false_iff_not]; intro h; exact hne (by rw [h])]; rfl
  simp (maxSteps := 1000000) (disch := first | assumption | omega | rfl | decide) [↓rules, rules, lit_u64, aEval_U, splice_nil, splice_zero, splice_step, gset_gset, Int.ofNat_inj, U_junk, U_cells, U_cellOk, ub_and, ub_or, ub_xor, ub_andNot, ub_add, ub_sub, ub_mul, ub_shl, ub_shr, ub_shl', ub_shr', ub_eql, ub_neq, ub_lss, ub_leq, ub_gtr, ub_geq, rc16, hva, hvb, tu26, hne]
  rw [← hvb, show Value.slice a ys.length ea = va by rw [hva, hne]]
  refine rwp_loop (fun k l g' n' => ∃ i, k = xs.length - i ∧ i ≤ xs.length ∧ g' = g ∧ n' = n ∧ xs.take i = ys.take i ∧ l = [(0, va), (1, vb), (5, .int .i64 i)]) ?_ (k := xs.length) ?_
  · rintro k l g' n' ⟨i, rfl, hi, rfl, rfl, he, rfl⟩
    simp (maxSteps := 1000000) (disch := first | assumption | omega | rfl | decide) [↓rules, rules, lit_u64, aEval_U, splice_nil, splice_zero, splice_step, gset_gset, Int.ofNat_inj, U_junk, U_cells, U_cellOk, ub_and, ub_or, ub_xor, ub_andNot, ub_add, ub_sub, ub_mul, ub_shl, ub_shr, ub_shl', ub_shr', ub_eql, ub_neq, ub_lss, ub_leq, ub_gtr, ub_geq, rc16l0, hva, tu26]
    refine rcond_dec (fun hlt => ?_) (fun hlt => ?_)
    · have hlt1 : i < xs.length := by omega
      obtain ⟨b1, o1, h1, _, h2⟩ := ha.one hlt1
      obtain ⟨b2, o2, h3, _, h4⟩ := hb.one (show i < ys.length by omega)
      have e1 := h2 g' (Ext.refl _) Try.prog 23 ta23
      have e2 := h4 g' (Ext.refl _) Try.prog 23 ta23
      rw [← hva]
      have hlt2 : i < ys.length := by omega
      simp (maxSteps := 1000000) (disch := first | assumption | omega | rfl | decide) [↓rules, rules, lit_u64, aEval_U, splice_nil, splice_zero, splice_step, gset_gset, Int.ofNat_inj, U_junk, U_cells, U_cellOk, ub_and, ub_or, ub_xor, ub_andNot, ub_add, ub_sub, ub_mul, ub_shl, ub_shr, ub_shl', ub_shr', ub_eql, ub_neq, ub_lss, ub_leq, ub_gtr, ub_geq, h1, h3, tu26, ts23, e1, e2, hne, hlt2]
      have htake : ∀ (zs : List (BitVec 64)) (h : i < zs.length), zs.take (i + 1) = zs.take i ++ [zs[i]] := fun zs h => by rw [List.take_add_one, List.getElem?_eq_getElem h]; rfl
      refine rcond_bool (fun c => ?_) (fun c => ?_)
      · refine done_q hdom (Kept.refl hdom) ?_ ?_; · rfl
        have c : xs[i] ≠ ys[i] := by simpa using c
        rw [show decide (xs = ys) = false by simp only [decide_eq_false_iff_not]; intro h; subst h; exact c rfl]; rfl
      · have c : xs[i] = ys[i] := by simpa using c
        simp (maxSteps := 1000000) (disch := first | assumption | omega | rfl | decide) [↓rules, rules, lit_u64, aEval_U, splice_nil, splice_zero, splice_step, gset_gset, Int.ofNat_inj, U_junk, U_cells, U_cellOk, ub_and, ub_or, ub_xor, ub_andNot, ub_add, ub_sub, ub_mul, ub_shl, ub_shr, ub_shl', ub_shr', ub_eql, ub_neq, ub_lss, ub_leq, ub_gtr, ub_geq, wrap_i64]
        refine ⟨ys.length - (i + 1), by omega, i + 1, rfl, by omega, ?_⟩
        refine ⟨by rw [htake xs hlt1, htake ys hlt2, he, c], ?_⟩
        simp
    · refine done_q hdom (Kept.refl hdom) ?_ ?_; · rfl
      have e1 : i = xs.length := by omega
      have e2 : i = ys.length := by omega
      rw [e1, List.take_length, ← e1, e2, List.take_length] at he
      rw [show decide (xs = ys) = true by simpa using he]; rfl
  · exact ⟨0, by simp, by simp, rfl, rfl, by simp, by rfl⟩

theorem allF_good : ∀ (fs : List (Int × Int)) (w : BitVec 64), (allF fs w).2 = true → ∀ f ∈ fs, 0 ≤ f.1 ∧ f.1 < 64 ∧ 1 ≤ f.2 ∧ f.2 ≤ 64 - f.1
  | [], w, h, f, hf => by cases hf
  | x :: fs, w, h, f, hf => by
    rw [allF] at h
    split at h
    · rename_i ho
      cases hf with
      | head => exact ⟨ho.1, ho.2.1, ho.2.2.1, ho.2.2.2.1⟩
      | tail _ hf => exact allF_good fs _ h f hf
    · cases h
def getF (w : BitVec 64) (f : Int × Int) : BitVec 64 := (w &&& M f.1 f.2) >>> f.1.toNat
def getsF (w : BitVec 64) (fs : List (Int × Int)) : List (BitVec 64) := if goodF fs = true then fs.map (getF w) else []
theorem cellOks (ws : List (BitVec 64)) : (ws.map U).all cellOk = true := by
  induction ws with
  | nil => rfl
  | cons w ws ih => simp [ih, U_cellOk]
theorem Get (w : BitVec 64) (v : Value) (fs : List (Int × Int)) (g : AMem) (n : Nat) (hdom : ∀ i, g i ≠ none → i < n) (hl : fs.length ≤ 1000) (hfo : ∀ f ∈ fs, fOk f) (hv : rdF g v fs) :
    FnS Try.prog 13 [U w, v] g n (fun _ => False) fun r g' n' => rdW g' r (getsF w fs) ∧ Kept g n g' n' := by
  refine fnS_of_rwp t13 hm rfl hdom ?_
  obtain ⟨a, e', hvf⟩ := hv.form
  simp (maxSteps := 1000000) (disch := first | assumption | omega | rfl | decide) [↓rules, rules, lit_u64, aEval_U, splice_nil, splice_zero, splice_step, gset_gset, Int.ofNat_inj, U_junk, U_cells, U_cellOk, ub_and, ub_or, ub_xor, ub_andNot, ub_add, ub_sub, ub_mul, ub_shl, ub_shr, ub_shl', ub_shr', ub_eql, ub_neq, ub_lss, ub_leq, ub_gtr, ub_geq, rc13]
  refine rcall_quiet rfl (Good v fs g n (by omega) hfo hv) ?_
  simp (maxSteps := 1000000) (disch := first | assumption | omega | rfl | decide) [↓rules, rules, lit_u64, aEval_U, splice_nil, splice_zero, splice_step, gset_gset, Int.ofNat_inj, U_junk, U_cells, U_cellOk, ub_and, ub_or, ub_xor, ub_andNot, ub_add, ub_sub, ub_mul, ub_shl, ub_shr, ub_shl', ub_shr', ub_eql, ub_neq, ub_lss, ub_leq, ub_gtr, ub_geq, hvf, tu22, aMake_eq tu26 ts23 tb23 tv23, zeroRow_zero]
  refine rcond_bool (fun c => ?_) (fun c => ?_)
  · have c : goodF fs = false := by simpa using c
    refine sdone_ret rfl ⟨?_, Kept.refl hdom⟩
    rw [getsF, c]; exact Rd.nil
  · have c : goodF fs = true := by simpa using c
    have hok := allF_good fs 0#64 c
    have l1 : (fs.length : Int) ≤ 70368744177664 := by omega
    have l2 : 8 * fs.length ≤ 70368744177664 := by omega
    simp (maxSteps := 1000000) (disch := first | assumption | omega | rfl | decide) [↓rules, rules, lit_u64, aEval_U, splice_nil, splice_zero, splice_step, gset_gset, Int.ofNat_inj, U_junk, U_cells, U_cellOk, ub_and, ub_or, ub_xor, ub_andNot, ub_add, ub_sub, ub_mul, ub_shl, ub_shr, ub_shl', ub_shr', ub_eql, ub_neq, ub_lss, ub_leq, ub_gtr, ub_geq, l1, l2, hvf, tu22]
    refine rwp_loop (fun k l g' n' => ∃ i b, k = fs.length - i ∧ i ≤ fs.length ∧ Kept g n g' n' ∧ n ≤ b ∧ g' b = some (.row ((fs.map fun f => U (getF w f)).take i) true) ∧ l = [(0, U w), (5, .slice (some ⟨b, 0, none⟩) i 1), (14, v), (15, .int .i64 fs.length), (16, .int .i64 i)]) ?_ (k := fs.length) ?_
    · rintro k l g' n' ⟨i, b, rfl, hi, hk, hb, hgb, rfl⟩
      simp (maxSteps := 1000000) (disch := first | assumption | omega | rfl | decide) [↓rules, rules, lit_u64, aEval_U, splice_nil, splice_zero, splice_step, gset_gset, Int.ofNat_inj, U_junk, U_cells, U_cellOk, ub_and, ub_or, ub_xor, ub_andNot, ub_add, ub_sub, ub_mul, ub_shl, ub_shr, ub_shl', ub_shr', ub_eql, ub_neq, ub_lss, ub_leq, ub_gtr, ub_geq, rc13l0]
      refine rcond_dec (fun hlt => ?_) (fun hlt => ?_)
      · have hlt : i < fs.length := by omega
        obtain ⟨b1, o1, h1, hb1, h2, h3⟩ := Rd.many (enc := encF) (e := 2) (fun _ => rfl) hv hlt
        have e1 := h2 g' (hk.ext hdom) Try.prog 34 ta34 ts34
        have hp := hok fs[i] (List.getElem_mem hlt)
        have hb1 := hdom b1 hb1
        have hbn := hk.lt hgb
        have hn := hk.le
        simp (maxSteps := 1000000) (disch := first | assumption | omega | rfl | decide) [↓rules, rules, lit_u64, aEval_U, splice_nil, splice_zero, splice_step, gset_gset, Int.ofNat_inj, U_junk, U_cells, U_cellOk, ub_and, ub_or, ub_xor, ub_andNot, ub_add, ub_sub, ub_mul, ub_shl, ub_shr, ub_shl', ub_shr', ub_eql, ub_neq, ub_lss, ub_leq, ub_gtr, ub_geq, h1, tu22, ts34, hlt, e1, encF, tz34, tf34_0, ta34]
        refine ⟨hn, ?_⟩
        refine rcall_quiet rfl (mask _ _ (by omega) (by omega) _ _) ?_
        have hbn1 : b ≠ n' := by omega
        have hbn2 : b ≠ n' + 1 := by omega
        have hsz : (i + 1) * 8 ≤ 70368744177664 := by omega
        have hsz2 : i + 1 ≤ 70368744177664 := by omega
        have hmin : min i fs.length = i := by omega
        simp (maxSteps := 1000000) (disch := first | assumption | omega | rfl | decide) [↓rules, rules, lit_u64, aEval_U, splice_nil, splice_zero, splice_step, gset_gset, Int.ofNat_inj, U_junk, U_cells, U_cellOk, ub_and, ub_or, ub_xor, ub_andNot, ub_add, ub_sub, ub_mul, ub_shl, ub_shr, ub_shl', ub_shr', ub_eql, ub_neq, ub_lss, ub_leq, ub_gtr, ub_geq, fillS_nil, fillS_cons, fillP_nil, fillP_cons, fillO_some, nthP_cons, zeroRow_one, aRead_at, aRead_nil, readR_row, appR_nil, appR_row, appR1_row, appR_zero, grow_row, hbn1, hbn2, hsz, hsz2, hmin, tf34_0, tf34_1, ta3, ts3, do_buildL tu26 tz23 ts23 rfl, aAppend1 tu26 ts23 tb23 tv23 rfl, hgb]
        refine ⟨hb, fs.length - (i + 1), by omega, i + 1, rfl, by omega, (((hk.new _).new _).drop hb).new _, n' + 1 + 1, by omega, ?_, ⟨rfl, rfl⟩, wrap_i64 (by omega) (by omega)⟩
        rw [if_pos rfl, List.take_add_one, List.getElem?_eq_getElem (by simpa using hlt)]
        simp [getF]
      · have : i = fs.length := by omega
        refine sdone_ret rfl ⟨?_, hk⟩
        rw [getsF, if_pos c]
        show Rd g' 1 (fun w => [U w]) (.slice (some ⟨b, 0, none⟩) i 1) _
        refine Rd.of_row (enc := fun w => [U w]) (fun _ => rfl) hgb ?_ ?_ ?_
        · simp; omega
        · subst this; simp [flatMap_one, List.take_of_length_le, Function.comp_def]
        · simp; omega
    · exact ⟨0, n, by simp, by simp, (Kept.refl hdom).new _, Nat.le_refl _, by simp [gset], by rw [← hvf]; rfl⟩
def putF : List (Int × Int) → List (BitVec 64) → BitVec 64 → BitVec 64 × Bool
  | f :: fs, x :: xs, w => if M f.1 f.2 >>> f.1.toNat < x then (0#64, false) else putF fs xs (w ||| x <<< f.1.toNat)
  | _, _, w => (w, true)
def putsF (fs : List (Int × Int)) (xs : List (BitVec 64)) : BitVec 64 × Bool := if goodF fs = true ∧ fs.length = xs.length then putF fs xs 0#64 else (0#64, false)
theorem Put (v vx : Value) (fs : List (Int × Int)) (xs : List (BitVec 64)) (g : AMem) (n : Nat) (hl : fs.length ≤ 1000) (hl' : xs.length ≤ 1000) (hfo : ∀ f ∈ fs, fOk f) (hv : rdF g v fs) (hx : rdW g vx xs) :
    FnC Try.prog 14 [v, vx] g n (fun _ => False) (.tuple #[U (putsF fs xs).1, .bool (putsF fs xs).2]) g n := by
  refine fnC_of_rwp t14 hm rfl fun hdom => ?_
  obtain ⟨a, e', hvf⟩ := hv.form
  obtain ⟨ax, ex, hvx⟩ := hx.form
  simp (maxSteps := 1000000) (disch := first | assumption | omega | rfl | decide) [↓rules, rules, lit_u64, aEval_U, splice_nil, splice_zero, splice_step, gset_gset, Int.ofNat_inj, U_junk, U_cells, U_cellOk, ub_and, ub_or, ub_xor, ub_andNot, ub_add, ub_sub, ub_mul, ub_shl, ub_shr, ub_shl', ub_shr', ub_eql, ub_neq, ub_lss, ub_leq, ub_gtr, ub_geq, rc14]
  refine rcall_quiet rfl (Good v fs g n (by omega) hfo hv) ?_
  cases c : goodF fs
  · simp (maxSteps := 1000000) (disch := first | assumption | omega | rfl | decide) [↓rules, rules, lit_u64, aEval_U, splice_nil, splice_zero, splice_step, gset_gset, Int.ofNat_inj, U_junk, U_cells, U_cellOk, ub_and, ub_or, ub_xor, ub_andNot, ub_add, ub_sub, ub_mul, ub_shl, ub_shr, ub_shl', ub_shr', ub_eql, ub_neq, ub_lss, ub_leq, ub_gtr, ub_geq]
    refine done_q hdom (Kept.refl hdom) ?_ ?_; · rfl
    rw [putsF, c]; simp; rfl
  by_cases hne : fs.length = xs.length
  case neg =>
    simp (maxSteps := 1000000) (disch := first | assumption | omega | rfl | decide) [↓rules, rules, lit_u64, aEval_U, splice_nil, splice_zero, splice_step, gset_gset, Int.ofNat_inj, U_junk, U_cells, U_cellOk, ub_and, ub_or, ub_xor, ub_andNot, ub_add, ub_sub, ub_mul, ub_shl, ub_shr, ub_shl', ub_shr', ub_eql, ub_neq, ub_lss, ub_leq, ub_gtr, ub_geq, hvf, hvx, tu22, tu26, hne]
    refine done_q hdom (Kept.refl hdom) ?_ ?_; · rfl
    rw [putsF, if_neg (fun h => hne h.2)]; rfl
  simp (maxSteps := 1000000) (disch := first | assumption | omega | rfl | decide) [↓rules, rules, lit_u64, aEval_U, splice_nil, splice_zero, splice_step, gset_gset, Int.ofNat_inj, U_junk, U_cells, U_cellOk, ub_and, ub_or, ub_xor, ub_andNot, ub_add, ub_sub, ub_mul, ub_shl, ub_shr, ub_shl', ub_shr', ub_eql, ub_neq, ub_lss, ub_leq, ub_gtr, ub_geq, hvf, hvx, tu22, tu26, hne]
  rw [putsF, if_pos ⟨c, hne⟩]
  have hok := allF_good fs 0#64 c
  rw [show Value.slice a xs.length e' = v by rw [hvf, hne], ← hvx]
  refine rwp_loop (fun k l g' n' => ∃ i w, k = fs.length - i ∧ i ≤ fs.length ∧ Kept g n g' n' ∧ putF (fs.drop i) (xs.drop i) w = putF fs xs 0#64 ∧ l = [(1, vx), (6, U w), (19, v), (20, .int .i64 xs.length), (21, .int .i64 i)]) ?_ (k := fs.length) ?_
  · rintro k l g' n' ⟨i, w, rfl, hi, hk, hw, rfl⟩
    simp (maxSteps := 1000000) (disch := first | assumption | omega | rfl | decide) [↓rules, rules, lit_u64, aEval_U, splice_nil, splice_zero, splice_step, gset_gset, Int.ofNat_inj, U_junk, U_cells, U_cellOk, ub_and, ub_or, ub_xor, ub_andNot, ub_add, ub_sub, ub_mul, ub_shl, ub_shr, ub_shl', ub_shr', ub_eql, ub_neq, ub_lss, ub_leq, ub_gtr, ub_geq, rc14l0]
    refine rcond_dec (fun hlt => ?_) (fun hlt => ?_)
    · have hlt : i < fs.length := by omega
      have hltx : i < xs.length := by omega
      obtain ⟨b1, o1, h1, hb1, h2, h3⟩ := Rd.many (enc := encF) (e := 2) (fun _ => rfl) hv hlt
      obtain ⟨b2, o2, h4, hb2, h5⟩ := hx.one hltx
      have e1 := h2 g' (hk.ext hdom) Try.prog 34 ta34 ts34
      have hp := hok fs[i] (List.getElem_mem hlt)
      have kn := hk.new (.row [.int .i64 fs[i].1, .int .i64 fs[i].2] true)
      have e2 := h5 _ (kn.ext hdom) Try.prog 23 ta23
      have hn := hk.le
      have hb2 := hdom b2 hb2
      have hb2n : b2 ≠ n' := by omega
      simp (maxSteps := 1000000) (disch := first | assumption | omega | rfl | decide) [↓rules, rules, lit_u64, aEval_U, splice_nil, splice_zero, splice_step, gset_gset, Int.ofNat_inj, U_junk, U_cells, U_cellOk, ub_and, ub_or, ub_xor, ub_andNot, ub_add, ub_sub, ub_mul, ub_shl, ub_shr, ub_shl', ub_shr', ub_eql, ub_neq, ub_lss, ub_leq, ub_gtr, ub_geq, h1, tu22, ts34, hlt, hltx, hne, e1, encF, tz34, tf34_0, ta34]
      refine ⟨hn, ?_⟩
      rw [h4]
      simp (maxSteps := 1000000) (disch := first | assumption | omega | rfl | decide) [↓rules, rules, lit_u64, aEval_U, splice_nil, splice_zero, splice_step, gset_gset, Int.ofNat_inj, U_junk, U_cells, U_cellOk, ub_and, ub_or, ub_xor, ub_andNot, ub_add, ub_sub, ub_mul, ub_shl, ub_shr, ub_shl', ub_shr', ub_eql, ub_neq, ub_lss, ub_leq, ub_gtr, ub_geq, tf34_0, tf34_1, ta34, ts34, tu26, ts23, hltx, e2]
      refine rcall_quiet rfl (mask _ _ (by omega) (by omega) _ _) ?_
      have hdf : fs.drop i = fs[i] :: fs.drop (i + 1) := List.drop_eq_getElem_cons hlt
      have hdx : xs.drop i = xs[i] :: xs.drop (i + 1) := List.drop_eq_getElem_cons hltx
      rw [hdf, hdx, putF] at hw
      simp (maxSteps := 1000000) (disch := first | assumption | omega | rfl | decide) [↓rules, rules, lit_u64, aEval_U, splice_nil, splice_zero, splice_step, gset_gset, Int.ofNat_inj, U_junk, U_cells, U_cellOk, ub_and, ub_or, ub_xor, ub_andNot, ub_add, ub_sub, ub_mul, ub_shl, ub_shr, ub_shl', ub_shr', ub_eql, ub_neq, ub_lss, ub_leq, ub_gtr, ub_geq, tf34_0, tf34_1, ta3, ts3]
      refine rcond_dec (fun c2 => ?_) (fun c2 => ?_)
      · refine done_q hdom kn ?_ ?_; · rfl
        rw [if_pos c2] at hw; rw [← hw]; rfl
      · rw [if_neg c2] at hw
        simp (maxSteps := 1000000) (disch := first | assumption | omega | rfl | decide) [↓rules, rules, lit_u64, aEval_U, splice_nil, splice_zero, splice_step, gset_gset, Int.ofNat_inj, U_junk, U_cells, U_cellOk, ub_and, ub_or, ub_xor, ub_andNot, ub_add, ub_sub, ub_mul, ub_shl, ub_shr, ub_shl', ub_shr', ub_eql, ub_neq, ub_lss, ub_leq, ub_gtr, ub_geq, tf34_0, tf34_1, ta3, ts3, ta34, ts34, tu26, ts23, hltx, e2]
        refine ⟨xs.length - (i + 1), by omega, i + 1, rfl, by omega, kn, _, hw, ?_⟩
        simp [wrap_i64 (show -9223372036854775808 ≤ (i : Int) + 1 by omega) (by omega)]
    · have : i = fs.length := by omega
      refine done_q hdom hk ?_ ?_; · rfl
      rw [this, List.drop_length, putF] at hw
      · rw [← hw]; rfl
      · simp
  · exact ⟨0, 0#64, by simp, by simp, Kept.refl hdom, by simp, by rfl⟩
theorem Value' (w : BitVec 64) (g : AMem) (n : Nat) : FnC Try.prog 19 [U w] g n (fun _ => False) (U (w &&& 281474976710655#64)) g n := by
  refine fnC_of_rwp t19 hm rfl fun hdom => ?_
  simp (maxSteps := 1000000) (disch := first | assumption | omega | rfl | decide) [↓rules, rules, lit_u64, aEval_U, splice_nil, splice_zero, splice_step, gset_gset, Int.ofNat_inj, U_junk, U_cells, U_cellOk, ub_and, ub_or, ub_xor, ub_andNot, ub_add, ub_sub, ub_mul, ub_shl, ub_shr, ub_shl', ub_shr', ub_eql, ub_neq, ub_lss, ub_leq, ub_gtr, ub_geq, rc19]
  refine done_q hdom (Kept.refl hdom) ?_ ?_ <;> rfl
def ver (w : BitVec 64) : Int := uI (w >>> 48)
theorem ver_lt (w : BitVec 64) : 0 ≤ ver w ∧ ver w < 65536 := by
  have h2 : (w >>> 48).toNat < 65536 := by simp [BitVec.toNat_ushiftRight, Nat.shiftRight_eq_div_pow]; omega
  unfold ver uI; omega
theorem Version (w : BitVec 64) (g : AMem) (n : Nat) : FnC Try.prog 20 [U w] g n (fun _ => False) (.int .i64 (ver w)) g n := by
  refine fnC_of_rwp t20 hm rfl fun hdom => ?_
  have := ver_lt w
  have e : IntKind.i64.wrap (uI (w >>> 48)) = ver w := wrap_i64 (by unfold ver at this; omega) (by unfold ver at this; omega)
  simp (maxSteps := 1000000) (disch := first | assumption | omega | rfl | decide) [↓rules, rules, lit_u64, aEval_U, splice_nil, splice_zero, splice_step, gset_gset, Int.ofNat_inj, U_junk, U_cells, U_cellOk, ub_and, ub_or, ub_xor, ub_andNot, ub_add, ub_sub, ub_mul, ub_shl, ub_shr, ub_shl', ub_shr', ub_eql, ub_neq, ub_lss, ub_leq, ub_gtr, ub_geq, rc20, conv_of_u64 tu37 tu3, e]
  refine done_q hdom (Kept.refl hdom) ?_ ?_ <;> rfl
def makeV (x : BitVec 64) (v : Int) : BitVec 64 × Bool := if x < 281474976710656#64 ∧ 0 ≤ v ∧ v ≤ 65535 then (x ||| BitVec.ofInt 64 v <<< 48, true) else (0#64, false)
theorem Make (x : BitVec 64) (v : Int) (g : AMem) (n : Nat) : FnC Try.prog 17 [U x, .int .i64 v] g n (fun _ => False) (.tuple #[U (makeV x v).1, .bool (makeV x v).2]) g n := by
  refine fnC_of_rwp t17 hm rfl fun hdom => ?_
  have bad : ¬ (x < 281474976710656#64 ∧ 0 ≤ v ∧ v ≤ 65535) → makeV x v = (0#64, false) := fun h => if_neg h
  by_cases c1 : 281474976710656#64 ≤ x
  · simp (maxSteps := 1000000) (disch := first | assumption | omega | rfl | decide) [↓rules, rules, lit_u64, aEval_U, splice_nil, splice_zero, splice_step, gset_gset, Int.ofNat_inj, U_junk, U_cells, U_cellOk, ub_and, ub_or, ub_xor, ub_andNot, ub_add, ub_sub, ub_mul, ub_shl, ub_shr, ub_shl', ub_shr', ub_eql, ub_neq, ub_lss, ub_leq, ub_gtr, ub_geq, rc17, c1]
    refine done_q hdom (Kept.refl hdom) ?_ ?_; · rfl
    rw [bad (fun h => absurd h.1 (BitVec.not_lt.2 c1))]; rfl
  by_cases c2 : v < 0
  · simp (maxSteps := 1000000) (disch := first | assumption | omega | rfl | decide) [↓rules, rules, lit_u64, aEval_U, splice_nil, splice_zero, splice_step, gset_gset, Int.ofNat_inj, U_junk, U_cells, U_cellOk, ub_and, ub_or, ub_xor, ub_andNot, ub_add, ub_sub, ub_mul, ub_shl, ub_shr, ub_shl', ub_shr', ub_eql, ub_neq, ub_lss, ub_leq, ub_gtr, ub_geq, rc17, c1, c2]
    refine done_q hdom (Kept.refl hdom) ?_ ?_; · rfl
    rw [bad (by omega)]; rfl
  by_cases c3 : 65535 < v
  · simp (maxSteps := 1000000) (disch := first | assumption | omega | rfl | decide) [↓rules, rules, lit_u64, aEval_U, splice_nil, splice_zero, splice_step, gset_gset, Int.ofNat_inj, U_junk, U_cells, U_cellOk, ub_and, ub_or, ub_xor, ub_andNot, ub_add, ub_sub, ub_mul, ub_shl, ub_shr, ub_shl', ub_shr', ub_eql, ub_neq, ub_lss, ub_leq, ub_gtr, ub_geq, rc17, c1, c2, c3]
    refine done_q hdom (Kept.refl hdom) ?_ ?_; · rfl
    rw [bad (by omega)]; rfl
  simp (maxSteps := 1000000) (disch := first | assumption | omega | rfl | decide) [↓rules, rules, lit_u64, aEval_U, splice_nil, splice_zero, splice_step, gset_gset, Int.ofNat_inj, U_junk, U_cells, U_cellOk, ub_and, ub_or, ub_xor, ub_andNot, ub_add, ub_sub, ub_mul, ub_shl, ub_shr, ub_shl', ub_shr', ub_eql, ub_neq, ub_lss, ub_leq, ub_gtr, ub_geq, rc17, c1, c2, c3, conv_to_u64 tu3 tu23]
  refine done_q hdom (Kept.refl hdom) ?_ ?_; · rfl
  rw [makeV, if_pos ⟨BitVec.not_le.1 c1, by omega, by omega⟩]; rfl
theorem low16 (x : Int) (h : 0 ≤ x ∧ x < 131072) : bAnd .i64 x 65535 = x % 65536 := by
  obtain ⟨k, rfl⟩ : ∃ k : Nat, x = k := ⟨x.toNat, by omega⟩
  have hk : k < 131072 := by omega
  show IntKind.i64.wrap ((BitVec.ofInt 64 (k : Int) &&& BitVec.ofInt 64 65535 : BitVec 64).toNat : Int) = _
  have e : (BitVec.ofInt 64 (k : Int) &&& BitVec.ofInt 64 65535 : BitVec 64).toNat = k % 65536 := by
    rw [BitVec.toNat_and, BitVec.toNat_ofInt, BitVec.toNat_ofInt]
    rw [show ((k : Int) % ((2 ^ 64 : Nat) : Int)).toNat = k by omega, show ((65535 : Int) % ((2 ^ 64 : Nat) : Int)).toNat = 2 ^ 16 - 1 by decide, Nat.and_two_pow_sub_one_eq_mod]
  rw [e, wrap_i64 (by omega) (by omega)]; omega
def nextV (w x : BitVec 64) : BitVec 64 × Bool := makeV x ((ver w + 1) % 65536)
theorem Next (w x : BitVec 64) (g : AMem) (n : Nat) : FnC Try.prog 18 [U w, U x] g n (fun _ => False) (.tuple #[U (nextV w x).1, .bool (nextV w x).2]) g n := by
  refine fnC_of_rwp t18 hm rfl fun hdom => ?_
  have h2 := ver_lt w
  simp (maxSteps := 1000000) (disch := first | assumption | omega | rfl | decide) [↓rules, rules, lit_u64, aEval_U, splice_nil, splice_zero, splice_step, gset_gset, Int.ofNat_inj, U_junk, U_cells, U_cellOk, ub_and, ub_or, ub_xor, ub_andNot, ub_add, ub_sub, ub_mul, ub_shl, ub_shr, ub_shl', ub_shr', ub_eql, ub_neq, ub_lss, ub_leq, ub_gtr, ub_geq, rc18]
  refine rcall_quiet rfl (Version w g n) ?_
  have hw : IntKind.i64.wrap (ver w + 1) = ver w + 1 := wrap_i64 (by omega) (by omega)
  have e := low16 (ver w + 1) (by omega)
  simp (maxSteps := 1000000) (disch := first | assumption | omega | rfl | decide) [↓rules, rules, lit_u64, aEval_U, splice_nil, splice_zero, splice_step, gset_gset, Int.ofNat_inj, U_junk, U_cells, U_cellOk, ub_and, ub_or, ub_xor, ub_andNot, ub_add, ub_sub, ub_mul, ub_shl, ub_shr, ub_shl', ub_shr', ub_eql, ub_neq, ub_lss, ub_leq, ub_gtr, ub_geq, hw, e]
  refine rcall_quiet rfl (Make x _ g n) ?_
  simp (maxSteps := 1000000) (disch := first | assumption | omega | rfl | decide) [↓rules, rules, lit_u64, aEval_U, splice_nil, splice_zero, splice_step, gset_gset, Int.ofNat_inj, U_junk, U_cells, U_cellOk, ub_and, ub_or, ub_xor, ub_andNot, ub_add, ub_sub, ub_mul, ub_shl, ub_shr, ub_shl', ub_shr', ub_eql, ub_neq, ub_lss, ub_leq, ub_gtr, ub_geq]
  refine done_q hdom (Kept.refl hdom) ?_ ?_ <;> rfl
end Go.Proofs.Ythigpfognkmegaa.F

namespace Go.Proofs.Ythigpfognkmegaa.F
open Go Go.Proofs Go.Proofs.YthigpfognkmegaaAbs
theorem ones_bit (b i : Nat) (hb : b ≤ 64) (hi : i < 64) : ((1#64 <<< b) - 1#64).getLsbD i = decide (i < b) := by
  have e : ((1#64 <<< b) - 1#64).toNat = 2 ^ b - 1 := by
    rw [BitVec.toNat_sub, BitVec.toNat_shiftLeft, Nat.shiftLeft_eq]
    by_cases h : b = 64
    · subst h; decide
    · have h1 : (2 : Nat) ^ b < 2 ^ 64 := Nat.pow_lt_pow_right (by decide) (by omega)
      have h2 : 0 < (2 : Nat) ^ b := Nat.pow_pos (by decide)
      simp only [BitVec.toNat_ofNat]
      have e1 : 1 % 2 ^ 64 * 2 ^ b % 2 ^ 64 = 2 ^ b := by rw [Nat.mod_eq_of_lt (a := 1) (by decide), Nat.one_mul, Nat.mod_eq_of_lt h1]
      rw [e1]; omega
  rw [BitVec.getLsbD, e, Nat.testBit_two_pow_sub_one]
theorem M_bit (p q : Int) (hp : 0 ≤ p) (hq : 0 ≤ q) (hs : p + q ≤ 64) (i : Nat) (hi : i < 64) : (M p q).getLsbD i = decide (p.toNat ≤ i ∧ i < p.toNat + q.toNat) := by
  unfold M
  rw [BitVec.getLsbD_shiftLeft]
  by_cases h : i < p.toNat
  · simp [h, hi]; omega
  · rw [ones_bit _ _ (by omega) (by omega)]
    simp only [hi, h, decide_true, decide_false, Bool.not_false, Bool.true_and, decide_eq_decide]; omega
def okS (f : Int × Int) : Prop := 0 ≤ f.1 ∧ f.1 < 64 ∧ 1 ≤ f.2 ∧ f.2 ≤ 64 - f.1
theorem getF_back (w : BitVec 64) (f : Int × Int) (h : okS f) : getF w f <<< f.1.toNat = w &&& M f.1 f.2 := by
  obtain ⟨h1, h2, h3, h4⟩ := h
  apply BitVec.eq_of_getLsbD_eq
  intro i hi
  rw [getF, BitVec.getLsbD_shiftLeft]
  by_cases h : i < f.1.toNat
  · have := M_bit f.1 f.2 h1 (by omega) (by omega) i hi
    have hz : (M f.1 f.2).getLsbD i = false := by rw [this]; simp; omega
    simp only [hi, h, decide_true, Bool.not_true, Bool.and_false, Bool.false_and, BitVec.getLsbD_and, hz]
  · simp [h, hi, show f.1.toNat + (i - f.1.toNat) = i by omega]
theorem getF_le (w : BitVec 64) (f : Int × Int) : ¬ M f.1 f.2 >>> f.1.toNat < getF w f := by
  rw [BitVec.not_lt, BitVec.le_def, getF, BitVec.toNat_ushiftRight, BitVec.toNat_ushiftRight, BitVec.toNat_and, Nat.shiftRight_eq_div_pow, Nat.shiftRight_eq_div_pow]
  exact Nat.div_le_div_right Nat.and_le_right
def orF : List (Int × Int) → BitVec 64
  | [] => 0#64
  | f :: fs => M f.1 f.2 ||| orF fs
theorem allF_val : ∀ (fs : List (Int × Int)) (w : BitVec 64), (allF fs w).2 = true → (allF fs w).1 = w ||| orF fs
  | [], w, h => by simp [allF, orF]
  | f :: fs, w, h => by
    rw [allF] at h ⊢
    split at h
    · rename_i ho
      rw [if_pos ho, allF_val fs _ h, orF, BitVec.or_assoc]
    · cases h
theorem putF_gets (w : BitVec 64) : ∀ (fs : List (Int × Int)) (acc : BitVec 64), (∀ f ∈ fs, okS f) → putF fs (fs.map (getF w)) acc = (acc ||| (w &&& orF fs), true)
  | [], acc, h => by simp [putF, orF]
  | f :: fs, acc, h => by
    rw [List.map_cons, putF, if_neg (getF_le w f), putF_gets w fs _ (fun f hf => h f (by simp [hf])), getF_back w f (h f (by simp)), orF]
    congr 1
    apply BitVec.eq_of_getLsbD_eq
    intro i hi
    simp only [BitVec.getLsbD_or, BitVec.getLsbD_and, Bool.and_or_distrib_left, Bool.or_assoc]
theorem orF_mem : ∀ (fs : List (Int × Int)) (f : Int × Int), f ∈ fs → orF fs &&& M f.1 f.2 = M f.1 f.2
  | g :: fs, f, h => by
    apply BitVec.eq_of_getLsbD_eq
    intro i hi
    cases h with
    | head => simp only [orF, BitVec.getLsbD_or, BitVec.getLsbD_and]; cases (M g.1 g.2).getLsbD i <;> simp
    | tail _ h =>
      have := congrArg (fun x => BitVec.getLsbD x i) (orF_mem fs f h)
      simp only [BitVec.getLsbD_and] at this
      simp only [orF, BitVec.getLsbD_or, BitVec.getLsbD_and]
      cases h1 : (M f.1 f.2).getLsbD i <;> simp_all
/-- All fields' bits. -/
def A (fs : List (Int × Int)) : BitVec 64 := (allF fs 0#64).1
theorem A_eq {fs : List (Int × Int)} (h : goodF fs = true) : A fs = orF fs := by rw [A, allF_val fs _ h]; simp
theorem puts_gets (w : BitVec 64) {fs : List (Int × Int)} (h : goodF fs = true) : putsF fs (getsF w fs) = (w &&& A fs, true) := by
  rw [putsF, getsF, if_pos h, if_pos ⟨h, by simp⟩, putF_gets w fs _ (allF_good fs _ h), A_eq h]; simp
theorem gets_and (w : BitVec 64) {fs : List (Int × Int)} (h : goodF fs = true) : getsF (w &&& A fs) fs = getsF w fs := by
  rw [getsF, getsF, if_pos h, if_pos h]
  apply List.map_congr_left
  intro f hf
  rw [getF, getF, BitVec.and_assoc, A_eq h, orF_mem fs f hf]
theorem split_or (w a : BitVec 64) : w &&& a ||| w &&& ~~~ a = w := by
  apply BitVec.eq_of_getLsbD_eq
  intro i hi
  simp only [BitVec.getLsbD_or, BitVec.getLsbD_and, BitVec.getLsbD_not, hi, decide_true, Bool.true_and]
  cases w.getLsbD i <;> cases a.getLsbD i <;> rfl
theorem split_and (w a : BitVec 64) : w &&& a &&& (w &&& ~~~ a) = 0#64 := by
  apply BitVec.eq_of_getLsbD_eq
  intro i hi
  simp only [BitVec.getLsbD_and, BitVec.getLsbD_not, hi, decide_true, Bool.true_and, BitVec.getLsbD_zero]
  cases w.getLsbD i <;> cases a.getLsbD i <;> rfl
theorem split_not (w a : BitVec 64) : w &&& a &&& ~~~ a = 0#64 := by
  apply BitVec.eq_of_getLsbD_eq
  intro i hi
  simp only [BitVec.getLsbD_and, BitVec.getLsbD_not, hi, decide_true, Bool.true_and, BitVec.getLsbD_zero]
  cases w.getLsbD i <;> cases a.getLsbD i <;> rfl
theorem awake4_run : xfn Try.prog tab 100 20 11 [] (fun _ => none) 0 = some ⟨.bool true, fun _ => none, 0, 0, true⟩ := by kernel_rfl
theorem awake (g : AMem) (n : Nat) : FnC Try.prog 11 [] g n (fun _ => False) (.bool true) g n :=
  FnC.closed (xfn_ok hm tabOk 100 20 _ _ _ _ _ awake4_run).2.1 rfl rfl g n
theorem TagBack (v : Value) (fs : List (Int × Int)) (w : BitVec 64) (g : AMem) (n : Nat) (_ : ∀ i, g i ≠ none → i < n) (hfo : ∀ f ∈ fs, fOk f) (hv : rdF g v fs) : FnC Try.prog 3 [v, U w] g n (fun _ => False) (.bool true) g n := by
  refine fnC_of_rwp t3 hm rfl fun hdom => ?_
  obtain ⟨a, e', hvf⟩ := hv.form
  simp (maxSteps := 1000000) (disch := first | assumption | omega | rfl | decide) [↓rules, rules, lit_u64, aEval_U, splice_nil, splice_zero, splice_step, gset_gset, Int.ofNat_inj, U_junk, U_cells, U_cellOk, ub_and, ub_or, ub_xor, ub_andNot, ub_add, ub_sub, ub_mul, ub_shl, ub_shr, ub_shl', ub_shr', ub_eql, ub_neq, ub_lss, ub_leq, ub_gtr, ub_geq, rc3]
  refine rcall_quiet rfl (awake g n) ?_
  by_cases c1 : (70 : Int) < fs.length
  · simp (maxSteps := 1000000) (disch := first | assumption | omega | rfl | decide) [↓rules, rules, lit_u64, aEval_U, splice_nil, splice_zero, splice_step, gset_gset, Int.ofNat_inj, U_junk, U_cells, U_cellOk, ub_and, ub_or, ub_xor, ub_andNot, ub_add, ub_sub, ub_mul, ub_shl, ub_shr, ub_shl', ub_shr', ub_eql, ub_neq, ub_lss, ub_leq, ub_gtr, ub_geq, hvf, tu22, c1]
    refine done_q hdom (Kept.refl hdom) ?_ ?_ <;> rfl
  simp (maxSteps := 1000000) (disch := first | assumption | omega | rfl | decide) [↓rules, rules, lit_u64, aEval_U, splice_nil, splice_zero, splice_step, gset_gset, Int.ofNat_inj, U_junk, U_cells, U_cellOk, ub_and, ub_or, ub_xor, ub_andNot, ub_add, ub_sub, ub_mul, ub_shl, ub_shr, ub_shl', ub_shr', ub_eql, ub_neq, ub_lss, ub_leq, ub_gtr, ub_geq, hvf, tu22, c1]
  rw [← hvf]
  have hl : fs.length < 4611686018427387904 := by omega
  refine rcall_quiet rfl (Good v fs g n hl hfo hv) ?_
  cases c : goodF fs
  · simp (maxSteps := 1000000) (disch := first | assumption | omega | rfl | decide) [↓rules, rules, lit_u64, aEval_U, splice_nil, splice_zero, splice_step, gset_gset, Int.ofNat_inj, U_junk, U_cells, U_cellOk, ub_and, ub_or, ub_xor, ub_andNot, ub_add, ub_sub, ub_mul, ub_shl, ub_shr, ub_shl', ub_shr', ub_eql, ub_neq, ub_lss, ub_leq, ub_gtr, ub_geq]
    refine done_q hdom (Kept.refl hdom) ?_ ?_ <;> rfl
  simp (maxSteps := 1000000) (disch := first | assumption | omega | rfl | decide) [↓rules, rules, lit_u64, aEval_U, splice_nil, splice_zero, splice_step, gset_gset, Int.ofNat_inj, U_junk, U_cells, U_cellOk, ub_and, ub_or, ub_xor, ub_andNot, ub_add, ub_sub, ub_mul, ub_shl, ub_shr, ub_shl', ub_shr', ub_eql, ub_neq, ub_lss, ub_leq, ub_gtr, ub_geq]
  refine rcall_spec (Get w v fs g n hdom (by omega) hfo hv) rfl (fun _ h => h.elim) rfl fun r g1 n1 ⟨hr, k1⟩ => ?_
  have hg : (getsF w fs).length = fs.length := by rw [getsF, if_pos c]; simp
  simp (maxSteps := 1000000) (disch := first | assumption | omega | rfl | decide) [↓rules, rules, lit_u64, aEval_U, splice_nil, splice_zero, splice_step, gset_gset, Int.ofNat_inj, U_junk, U_cells, U_cellOk, ub_and, ub_or, ub_xor, ub_andNot, ub_add, ub_sub, ub_mul, ub_shl, ub_shr, ub_shl', ub_shr', ub_eql, ub_neq, ub_lss, ub_leq, ub_gtr, ub_geq]
  refine rcall_quiet rfl (Put v r fs (getsF w fs) g1 n1 (by omega) (by omega) hfo (hv.ext (k1.ext hdom)) hr) ?_
  rw [puts_gets w c]
  simp (maxSteps := 1000000) (disch := first | assumption | omega | rfl | decide) [↓rules, rules, lit_u64, aEval_U, splice_nil, splice_zero, splice_step, gset_gset, Int.ofNat_inj, U_junk, U_cells, U_cellOk, ub_and, ub_or, ub_xor, ub_andNot, ub_add, ub_sub, ub_mul, ub_shl, ub_shr, ub_shl', ub_shr', ub_eql, ub_neq, ub_lss, ub_leq, ub_gtr, ub_geq]
  refine rcall_quiet rfl (Rest w v fs g1 n1 hl hfo (hv.ext (k1.ext hdom))) ?_
  have e1 := split_or w (A fs); have e2 := split_and w (A fs); have e3 := split_not w (A fs)
  rw [show (allF fs 0#64).1 = A fs from rfl]
  simp (maxSteps := 1000000) (disch := first | assumption | omega | rfl | decide) [↓rules, rules, lit_u64, aEval_U, splice_nil, splice_zero, splice_step, gset_gset, Int.ofNat_inj, U_junk, U_cells, U_cellOk, ub_and, ub_or, ub_xor, ub_andNot, ub_add, ub_sub, ub_mul, ub_shl, ub_shr, ub_shl', ub_shr', ub_eql, ub_neq, ub_lss, ub_leq, ub_gtr, ub_geq, e1, e2, e3]
  refine rcall_spec (Get (w &&& A fs) v fs g1 n1 k1.dom (by omega) hfo (hv.ext (k1.ext hdom))) rfl (fun _ h => h.elim) rfl fun r2 g2 n2 ⟨hr2, k2⟩ => ?_
  rw [gets_and w c] at hr2
  simp (maxSteps := 1000000) (disch := first | assumption | omega | rfl | decide) [↓rules, rules, lit_u64, aEval_U, splice_nil, splice_zero, splice_step, gset_gset, Int.ofNat_inj, U_junk, U_cells, U_cellOk, ub_and, ub_or, ub_xor, ub_andNot, ub_add, ub_sub, ub_mul, ub_shl, ub_shr, ub_shl', ub_shr', ub_eql, ub_neq, ub_lss, ub_leq, ub_gtr, ub_geq]
  refine rcall_quiet rfl (words r2 r _ _ g2 n2 (by omega) (by omega) hr2 (hr.ext (k2.ext k1.dom))) ?_
  simp (maxSteps := 1000000) (disch := first | assumption | omega | rfl | decide) [↓rules, rules, lit_u64, aEval_U, splice_nil, splice_zero, splice_step, gset_gset, Int.ofNat_inj, U_junk, U_cells, U_cellOk, ub_and, ub_or, ub_xor, ub_andNot, ub_add, ub_sub, ub_mul, ub_shl, ub_shr, ub_shl', ub_shr', ub_eql, ub_neq, ub_lss, ub_leq, ub_gtr, ub_geq]
  refine rcall_quiet rfl (Rest (w &&& A fs) v fs g2 n2 hl hfo ((hv.ext (k1.ext hdom)).ext (k2.ext k1.dom))) ?_
  rw [show (allF fs 0#64).1 = A fs from rfl]
  simp (maxSteps := 1000000) (disch := first | assumption | omega | rfl | decide) [↓rules, rules, lit_u64, aEval_U, splice_nil, splice_zero, splice_step, gset_gset, Int.ofNat_inj, U_junk, U_cells, U_cellOk, ub_and, ub_or, ub_xor, ub_andNot, ub_add, ub_sub, ub_mul, ub_shl, ub_shr, ub_shl', ub_shr', ub_eql, ub_neq, ub_lss, ub_leq, ub_gtr, ub_geq, e3]
  refine done_q hdom (k1.trans k2) ?_ ?_ <;> rfl
theorem decF {H : Type} {enc : TypeId × Value → H} {W : World} : ∀ c, Cells enc Try.prog W [.flat (.int .i64), .flat (.int .i64)] c → ∃ x : Int × Int, encF x = c ∧ fOk x := fun c h => by
  obtain ⟨a, b, rfl, ha, hb⟩ := h.flats2
  obtain ⟨x, rfl, h1, h2⟩ := LK.i64 ha
  obtain ⟨y, rfl, h3, h4⟩ := LK.i64 hb
  exact ⟨(x, y), rfl, h1, h2, h3, h4⟩
theorem decW {H : Type} {enc : TypeId × Value → H} {W : World} : ∀ c, Cells enc Try.prog W [.flat (.int .u64)] c → ∃ x : BitVec 64, [U x] = c ∧ True := fun c h => by
  obtain ⟨a, rfl, ha⟩ := h.flats1
  obtain ⟨x, rfl⟩ := LK.u64 ha
  exact ⟨x, rfl, trivial⟩
end Go.Proofs.Ythigpfognkmegaa.F

namespace Go.Proofs.Ythigpfognkmegaa.F
open Go Go.Proofs Go.Proofs.YthigpfognkmegaaAbs
theorem bit_high {x : BitVec 64} {k i : Nat} (h : x.toNat < 2 ^ k) (hi : k ≤ i) : x.getLsbD i = false := by
  rw [BitVec.getLsbD]
  exact Nat.testBit_lt_two_pow (Nat.lt_of_lt_of_le h (Nat.pow_le_pow_right (by decide) hi))
theorem ofInt_small {v : Int} (h1 : 0 ≤ v) (h2 : v < 18446744073709551616) : (BitVec.ofInt 64 v).toNat = v.toNat := by
  rw [BitVec.toNat_ofInt]; omega
theorem low48 (i : Nat) (hi : i < 64) : (281474976710655#64).getLsbD i = decide (i < 48) := by
  have e : (281474976710655#64).toNat = 2 ^ 48 - 1 := by decide
  rw [BitVec.getLsbD, e, Nat.testBit_two_pow_sub_one]
theorem made_value {x y : BitVec 64} (hx : x.toNat < 2 ^ 48) : (x ||| y <<< 48) &&& 281474976710655#64 = x := by
  apply BitVec.eq_of_getLsbD_eq
  intro i hi
  rw [BitVec.getLsbD_and, BitVec.getLsbD_or, BitVec.getLsbD_shiftLeft, low48 i hi]
  by_cases h : i < 48
  · simp [h]
  · simp [h, bit_high hx (Nat.le_of_not_lt h)]
theorem made_ver {x y : BitVec 64} (hx : x.toNat < 2 ^ 48) (hy : y.toNat < 2 ^ 16) : (x ||| y <<< 48) >>> 48 = y := by
  apply BitVec.eq_of_getLsbD_eq
  intro i hi
  rw [BitVec.getLsbD_ushiftRight, BitVec.getLsbD_or, BitVec.getLsbD_shiftLeft, bit_high hx (by omega)]
  by_cases h : i < 16
  · simp [show 48 + i < 64 by omega]
  · simp [bit_high hy (Nat.le_of_not_lt h)]
theorem makeV_ok {x : BitVec 64} {v : Int} (hx : x < 281474976710656#64) (h1 : 0 ≤ v) (h2 : v ≤ 65535) : (makeV x v).2 = true ∧ (makeV x v).1 &&& 281474976710655#64 = x ∧ ver (makeV x v).1 = v := by
  rw [makeV, if_pos ⟨hx, h1, h2⟩]
  have hx' : x.toNat < 2 ^ 48 := by rw [BitVec.lt_def] at hx; exact hx
  have e := ofInt_small h1 (by omega)
  refine ⟨rfl, made_value hx', ?_⟩
  show uI ((x ||| BitVec.ofInt 64 v <<< 48) >>> 48) = v
  rw [made_ver hx' (by omega), uI, e]; omega
theorem makeV_no {x : BitVec 64} {v : Int} (h : (makeV x v).2 = true) : x < 281474976710656#64 ∧ 0 ≤ v ∧ v ≤ 65535 := by
  apply Classical.byContradiction; intro hn
  rw [makeV, if_neg hn] at h; cases h
theorem TagVersions (x : BitVec 64) (v m : Int) (g : AMem) (n : Nat) (hdom : ∀ i, g i ≠ none → i < n) (_ : -9223372036854775808 ≤ v) (_ : v ≤ 9223372036854775807) (hm1 : -9223372036854775808 ≤ m) (hm2 : m ≤ 9223372036854775807) : FnC Try.prog 5 [U x, .int .i64 v, .int .i64 m] g n (fun _ => False) (.bool true) g n := by
  refine fnC_of_rwp t5 hm rfl fun hdom => ?_
  simp (maxSteps := 1000000) (disch := first | assumption | omega | rfl | decide) [↓rules, rules, lit_u64, aEval_U, splice_nil, splice_zero, splice_step, gset_gset, Int.ofNat_inj, U_junk, U_cells, U_cellOk, ub_and, ub_or, ub_xor, ub_andNot, ub_add, ub_sub, ub_mul, ub_shl, ub_shr, ub_shl', ub_shr', ub_eql, ub_neq, ub_lss, ub_leq, ub_gtr, ub_geq, rc5]
  refine rcall_quiet rfl (awake g n) ?_
  simp (maxSteps := 1000000) (disch := first | assumption | omega | rfl | decide) [↓rules, rules, lit_u64, aEval_U, splice_nil, splice_zero, splice_step, gset_gset, Int.ofNat_inj, U_junk, U_cells, U_cellOk, ub_and, ub_or, ub_xor, ub_andNot, ub_add, ub_sub, ub_mul, ub_shl, ub_shr, ub_shl', ub_shr', ub_eql, ub_neq, ub_lss, ub_leq, ub_gtr, ub_geq]
  refine rcall_quiet rfl (Make x v g n) ?_
  cases c : (makeV x v).2
  · simp (maxSteps := 1000000) (disch := first | assumption | omega | rfl | decide) [↓rules, rules, lit_u64, aEval_U, splice_nil, splice_zero, splice_step, gset_gset, Int.ofNat_inj, U_junk, U_cells, U_cellOk, ub_and, ub_or, ub_xor, ub_andNot, ub_add, ub_sub, ub_mul, ub_shl, ub_shr, ub_shl', ub_shr', ub_eql, ub_neq, ub_lss, ub_leq, ub_gtr, ub_geq]
    refine done_q hdom (Kept.refl hdom) ?_ ?_ <;> rfl
  obtain ⟨hx, hv1, hv2⟩ := makeV_no c
  obtain ⟨_, c3, c4⟩ := makeV_ok hx hv1 hv2
  by_cases c1 : m < 0
  · simp (maxSteps := 1000000) (disch := first | assumption | omega | rfl | decide) [↓rules, rules, lit_u64, aEval_U, splice_nil, splice_zero, splice_step, gset_gset, Int.ofNat_inj, U_junk, U_cells, U_cellOk, ub_and, ub_or, ub_xor, ub_andNot, ub_add, ub_sub, ub_mul, ub_shl, ub_shr, ub_shl', ub_shr', ub_eql, ub_neq, ub_lss, ub_leq, ub_gtr, ub_geq, c1]
    refine done_q hdom (Kept.refl hdom) ?_ ?_ <;> rfl
  by_cases c2 : 70 < m
  · simp (maxSteps := 1000000) (disch := first | assumption | omega | rfl | decide) [↓rules, rules, lit_u64, aEval_U, splice_nil, splice_zero, splice_step, gset_gset, Int.ofNat_inj, U_junk, U_cells, U_cellOk, ub_and, ub_or, ub_xor, ub_andNot, ub_add, ub_sub, ub_mul, ub_shl, ub_shr, ub_shl', ub_shr', ub_eql, ub_neq, ub_lss, ub_leq, ub_gtr, ub_geq, c1, c2]
    refine done_q hdom (Kept.refl hdom) ?_ ?_ <;> rfl
  simp (maxSteps := 1000000) (disch := first | assumption | omega | rfl | decide) [↓rules, rules, lit_u64, aEval_U, splice_nil, splice_zero, splice_step, gset_gset, Int.ofNat_inj, U_junk, U_cells, U_cellOk, ub_and, ub_or, ub_xor, ub_andNot, ub_add, ub_sub, ub_mul, ub_shl, ub_shr, ub_shl', ub_shr', ub_eql, ub_neq, ub_lss, ub_leq, ub_gtr, ub_geq, c1, c2]
  refine rwp_loop (fun k l g' n' => ∃ (i : Nat) (w : BitVec 64), k = m.toNat - i ∧ i ≤ m.toNat ∧ g' = g ∧ n' = n ∧ ver w = (v + i) % 65536 ∧ l = [(1, .int .i64 v), (2, .int .i64 m), (7, U w), (9, .int .i64 i)]) ?_ (k := m.toNat) ?_
  · rintro k l g' n' ⟨i, w, rfl, hi, rfl, rfl, hw, rfl⟩
    simp (maxSteps := 1000000) (disch := first | assumption | omega | rfl | decide) [↓rules, rules, lit_u64, aEval_U, splice_nil, splice_zero, splice_step, gset_gset, Int.ofNat_inj, U_junk, U_cells, U_cellOk, ub_and, ub_or, ub_xor, ub_andNot, ub_add, ub_sub, ub_mul, ub_shl, ub_shr, ub_shl', ub_shr', ub_eql, ub_neq, ub_lss, ub_leq, ub_gtr, ub_geq, rc5l0]
    refine rcond_dec (fun hlt => ?_) (fun hlt => ?_)
    · have hi70 : i < 70 := by omega
      have hlo : BitVec.ofNat 64 i < 281474976710656#64 := by rw [BitVec.lt_def]; simp; omega
      obtain ⟨f1, f2, f3⟩ := makeV_ok (x := BitVec.ofNat 64 i) (v := (ver w + 1) % 65536) hlo (by omega) (by omega)
      simp (maxSteps := 1000000) (disch := first | assumption | omega | rfl | decide) [↓rules, rules, lit_u64, aEval_U, splice_nil, splice_zero, splice_step, gset_gset, Int.ofNat_inj, U_junk, U_cells, U_cellOk, ub_and, ub_or, ub_xor, ub_andNot, ub_add, ub_sub, ub_mul, ub_shl, ub_shr, ub_shl', ub_shr', ub_eql, ub_neq, ub_lss, ub_leq, ub_gtr, ub_geq, conv_to_u64 tu3 tu23]
      refine rcall_quiet rfl (Next w _ g' n') ?_
      rw [nextV]
      simp (maxSteps := 1000000) (disch := first | assumption | omega | rfl | decide) [↓rules, rules, lit_u64, aEval_U, splice_nil, splice_zero, splice_step, gset_gset, Int.ofNat_inj, U_junk, U_cells, U_cellOk, ub_and, ub_or, ub_xor, ub_andNot, ub_add, ub_sub, ub_mul, ub_shl, ub_shr, ub_shl', ub_shr', ub_eql, ub_neq, ub_lss, ub_leq, ub_gtr, ub_geq, f1]
      refine rcall_quiet rfl (Value' _ g' n') ?_
      rw [f2]
      simp (maxSteps := 1000000) (disch := first | assumption | omega | rfl | decide) [↓rules, rules, lit_u64, aEval_U, splice_nil, splice_zero, splice_step, gset_gset, Int.ofNat_inj, U_junk, U_cells, U_cellOk, ub_and, ub_or, ub_xor, ub_andNot, ub_add, ub_sub, ub_mul, ub_shl, ub_shr, ub_shl', ub_shr', ub_eql, ub_neq, ub_lss, ub_leq, ub_gtr, ub_geq, conv_to_u64 tu3 tu23, wrap_i64]
      refine ⟨m.toNat - (i + 1), by omega, i + 1, rfl, by omega, ?_⟩
      refine ⟨_, ?_, rfl, ?_⟩
      · rw [f3, hw]; omega
      · simp [wrap_i64 (show -9223372036854775808 ≤ (i : Int) + 1 by omega) (by omega)]
    · have e : (i : Int) = m := by omega
      refine rcall_quiet rfl (Version w g' n') ?_
      have e1 : IntKind.i64.wrap (v + m) = v + m := wrap_i64 (by omega) (by omega)
      simp (maxSteps := 1000000) (disch := first | assumption | omega | rfl | decide) [↓rules, rules, lit_u64, aEval_U, splice_nil, splice_zero, splice_step, gset_gset, Int.ofNat_inj, U_junk, U_cells, U_cellOk, ub_and, ub_or, ub_xor, ub_andNot, ub_add, ub_sub, ub_mul, ub_shl, ub_shr, ub_shl', ub_shr', ub_eql, ub_neq, ub_lss, ub_leq, ub_gtr, ub_geq, bin_rem, e1]
      refine done_q hdom (Kept.refl hdom) ?_ ?_; · rfl
      rw [show ver w = (v + m) % 65536 by rw [hw, e], Int.tmod_eq_emod_of_nonneg (show 0 ≤ v + m by omega)]
      simp only [eq_self, decide_true]; rfl
  · exact ⟨0, _, by simp, by simp, rfl, rfl, by rw [c4]; omega, by rfl⟩
end Go.Proofs.Ythigpfognkmegaa.F

namespace Go.Proofs.Ythigpfognkmegaa.F
open Go Go.Proofs Go.Proofs.YthigpfognkmegaaAbs
theorem ones_eq (p q : Int) (hp : 0 ≤ p) (hq : 0 ≤ q) (hs : p + q ≤ 64) : M p q >>> p.toNat = (1#64 <<< q.toNat) - 1#64 := by
  apply BitVec.eq_of_getLsbD_eq
  intro i hi
  rw [BitVec.getLsbD_ushiftRight, ones_bit _ _ (by omega) hi]
  by_cases h : p.toNat + i < 64
  · rw [M_bit p q hp hq hs _ h]; simp
  · rw [BitVec.getLsbD_of_ge _ _ (by omega)]; simp; omega
theorem le_ones (x : BitVec 64) (b : Nat) (hb : b ≤ 64) : ¬ ((1#64 <<< b) - 1#64) < x ↔ x >>> b = 0#64 := by
  rw [BitVec.not_lt]
  have hx := x.isLt
  have e : ((1#64 <<< b) - 1#64).toNat = 2 ^ b - 1 := by
    rw [BitVec.toNat_sub, BitVec.toNat_shiftLeft, Nat.shiftLeft_eq]
    by_cases h : b = 64
    · subst h; decide
    · have h1 : (2 : Nat) ^ b < 2 ^ 64 := Nat.pow_lt_pow_right (by decide) (by omega)
      have h2 : 0 < (2 : Nat) ^ b := Nat.pow_pos (by decide)
      simp only [BitVec.toNat_ofNat]
      have e1 : 1 % 2 ^ 64 * 2 ^ b % 2 ^ 64 = 2 ^ b := by rw [Nat.mod_eq_of_lt (a := 1) (by decide), Nat.one_mul, Nat.mod_eq_of_lt h1]
      rw [e1]; omega
  have h2 : 0 < (2 : Nat) ^ b := Nat.pow_pos (by decide)
  rw [BitVec.le_def, e]
  constructor
  · intro h
    apply BitVec.eq_of_toNat_eq
    rw [BitVec.toNat_ushiftRight, Nat.shiftRight_eq_div_pow]
    exact Nat.div_eq_of_lt (by omega)
  · intro h
    have := congrArg BitVec.toNat h
    rw [BitVec.toNat_ushiftRight, Nat.shiftRight_eq_div_pow] at this
    have h3 : x.toNat / 2 ^ b = 0 := this
    rcases Nat.div_eq_zero_iff.1 h3 with h4 | h4
    · omega
    · omega
def okX (f : Int × Int) (x : BitVec 64) : Prop := ¬ M f.1 f.2 >>> f.1.toNat < x
theorem okX_iff {f : Int × Int} (h : okS f) (x : BitVec 64) : okX f x ↔ x >>> f.2.toNat = 0#64 := by
  obtain ⟨h1, h2, h3, h4⟩ := h
  rw [okX, ones_eq f.1 f.2 h1 (by omega) (by omega), le_ones x _ (by omega)]
theorem bit_zero {x : BitVec 64} {b i : Nat} (h : x >>> b = 0#64) (hi : b ≤ i) : x.getLsbD i = false := by
  have := congrArg (fun y => BitVec.getLsbD y (i - b)) h
  simp only [BitVec.getLsbD_ushiftRight, BitVec.getLsbD_zero] at this
  rw [show b + (i - b) = i by omega] at this
  exact this
theorem in_mask {f : Int × Int} (h : okS f) {x : BitVec 64} (hx : okX f x) : x <<< f.1.toNat &&& M f.1 f.2 = x <<< f.1.toNat := by
  have hz := (okX_iff h x).1 hx
  obtain ⟨h1, h2, h3, h4⟩ := h
  apply BitVec.eq_of_getLsbD_eq
  intro i hi
  rw [BitVec.getLsbD_and, BitVec.getLsbD_shiftLeft, M_bit _ _ h1 (by omega) (by omega) i hi]
  by_cases c : f.1.toNat ≤ i ∧ i < f.1.toNat + f.2.toNat
  · simp [c]
  · by_cases c1 : i < f.1.toNat
    · simp [c1]
    · rw [bit_zero hz (i := i - f.1.toNat) (by omega)]; simp
theorem shl_shr {f : Int × Int} (h : okS f) {x : BitVec 64} (hx : okX f x) : (x <<< f.1.toNat) >>> f.1.toNat = x := by
  have hz := (okX_iff h x).1 hx
  obtain ⟨h1, h2, h3, h4⟩ := h
  apply BitVec.eq_of_getLsbD_eq
  intro i hi
  rw [BitVec.getLsbD_ushiftRight, BitVec.getLsbD_shiftLeft]
  by_cases c : f.1.toNat + i < 64
  · simp [c]; intro _; omega
  · rw [bit_zero hz (i := i) (by omega)]; simp [c]
theorem allF_apart : ∀ (fs : List (Int × Int)) (m : BitVec 64), (allF fs m).2 = true → ∀ f ∈ fs, m &&& M f.1 f.2 = 0#64
  | [], m, h, f, hf => by cases hf
  | x :: fs, m, h, f, hf => by
    rw [allF] at h
    split at h
    · rename_i ho
      cases hf with
      | head => exact ho.2.2.2.2
      | tail _ hf =>
        have := allF_apart fs _ h f hf
        apply BitVec.eq_of_getLsbD_eq
        intro i hi
        have h2 := congrArg (fun y => BitVec.getLsbD y i) this
        simp only [BitVec.getLsbD_and, BitVec.getLsbD_or, BitVec.getLsbD_zero] at h2 ⊢
        cases h3 : m.getLsbD i <;> simp_all
    · cases h
theorem putF_ok : ∀ (fs : List (Int × Int)) (xs : List (BitVec 64)) (acc m : BitVec 64), (allF fs m).2 = true → fs.length = xs.length → (∀ i (h : i < fs.length) (h' : i < xs.length), okX fs[i] xs[i]) →
    (putF fs xs acc).2 = true ∧ ∃ P, (putF fs xs acc).1 = acc ||| P ∧ P &&& m = 0#64 ∧ P &&& ~~~ orF fs = 0#64 ∧ fs.map (getF P) = xs
  | [], [], acc, m, h, hl, hx => ⟨rfl, 0#64, by simp [putF], by simp, by simp, rfl⟩
  | [], _ :: _, acc, m, h, hl, hx => by cases hl
  | _ :: _, [], acc, m, h, hl, hx => by cases hl
  | f :: fs, x :: xs, acc, m, h, hl, hx => by
    have hok := allF_good _ _ h f (by simp)
    have hap := allF_apart _ _ h f (by simp)
    have h0 : okX f x := hx 0 (by simp) (by simp)
    rw [allF] at h
    split at h
    case isFalse => cases h
    obtain ⟨i1, P, i2, i3, i4, i5⟩ := putF_ok fs xs (acc ||| x <<< f.1.toNat) (m ||| M f.1 f.2) h (by simpa using hl) (fun i a b => hx (i + 1) (by simpa using a) (by simpa using b))
    have hin := in_mask hok h0
    have hbits : ∀ i, (x <<< f.1.toNat).getLsbD i = true → (M f.1 f.2).getLsbD i = true := fun i hb => by
      have := congrArg (fun y => BitVec.getLsbD y i) hin
      simp only [BitVec.getLsbD_and] at this
      rw [hb] at this; simpa using this
    have hfs := allF_apart fs _ h
    rw [putF, if_neg h0]
    refine ⟨i1, x <<< f.1.toNat ||| P, by rw [i2, BitVec.or_assoc], ?_, ?_, ?_⟩
    · apply BitVec.eq_of_getLsbD_eq
      intro i hi
      have a1 := congrArg (fun y => BitVec.getLsbD y i) i3
      have a2 := congrArg (fun y => BitVec.getLsbD y i) hap
      have a3 := hbits i
      simp only [BitVec.getLsbD_and, BitVec.getLsbD_or, BitVec.getLsbD_zero] at a1 a2 ⊢
      cases h1 : m.getLsbD i <;> cases h2 : (x <<< f.1.toNat).getLsbD i <;> simp_all
    · apply BitVec.eq_of_getLsbD_eq
      intro i hi
      have a1 := congrArg (fun y => BitVec.getLsbD y i) i4
      have a3 := hbits i
      simp only [orF, BitVec.getLsbD_and, BitVec.getLsbD_or, BitVec.getLsbD_not, BitVec.getLsbD_zero, hi, decide_true, Bool.true_and] at a1 ⊢
      cases h1 : (M f.1 f.2).getLsbD i <;> cases h2 : (x <<< f.1.toNat).getLsbD i <;> simp_all
    · rw [List.map_cons]
      congr 1
      · have e : (x <<< f.1.toNat ||| P) &&& M f.1 f.2 = x <<< f.1.toNat := by
          apply BitVec.eq_of_getLsbD_eq
          intro i hi
          have a1 := congrArg (fun y => BitVec.getLsbD y i) i3
          have a3 := hbits i
          simp only [BitVec.getLsbD_and, BitVec.getLsbD_or, BitVec.getLsbD_zero] at a1 ⊢
          cases h1 : (M f.1 f.2).getLsbD i <;> cases h2 : (x <<< f.1.toNat).getLsbD i <;> simp_all
        rw [getF, e, shl_shr hok h0]
      · rw [← i5]
        apply List.map_congr_left
        intro f' hf'
        have e : (x <<< f.1.toNat ||| P) &&& M f'.1 f'.2 = P &&& M f'.1 f'.2 := by
          apply BitVec.eq_of_getLsbD_eq
          intro i hi
          have a1 := congrArg (fun y => BitVec.getLsbD y i) (hfs f' hf')
          have a3 := hbits i
          simp only [BitVec.getLsbD_and, BitVec.getLsbD_or, BitVec.getLsbD_zero] at a1 ⊢
          cases h1 : (M f.1 f.2).getLsbD i <;> cases h2 : (x <<< f.1.toNat).getLsbD i <;> simp_all
        rw [getF, getF, e]
theorem putF_no : ∀ (fs : List (Int × Int)) (xs : List (BitVec 64)) (acc : BitVec 64), fs.length = xs.length → ¬ (∀ i (h : i < fs.length) (h' : i < xs.length), okX fs[i] xs[i]) → putF fs xs acc = (0#64, false)
  | [], [], acc, hl, hx => absurd (fun i h => absurd h (by simp)) hx
  | [], _ :: _, acc, hl, hx => by cases hl
  | _ :: _, [], acc, hl, hx => by cases hl
  | f :: fs, x :: xs, acc, hl, hx => by
    rw [putF]
    by_cases h0 : M f.1 f.2 >>> f.1.toNat < x
    · rw [if_pos h0]
    · rw [if_neg h0]
      refine putF_no fs xs _ (by simpa using hl) fun h => hx fun i a b => ?_
      cases i with
      | zero => exact h0
      | succ i => exact h i (by simpa using a) (by simpa using b)
theorem gets_okX (w : BitVec 64) (fs : List (Int × Int)) (i : Nat) (h : i < fs.length) : okX fs[i] (getF w fs[i]) := getF_le w _
/-- Put among a word's other bits, it is told. -/
theorem gets_put {fs : List (Int × Int)} {P w : BitVec 64} (hP : P &&& ~~~ orF fs = 0#64) : fs.map (getF (P ||| (w &&& ~~~ orF fs))) = fs.map (getF P) := by
  apply List.map_congr_left
  intro f hf
  have e : (P ||| (w &&& ~~~ orF fs)) &&& M f.1 f.2 = P &&& M f.1 f.2 := by
    apply BitVec.eq_of_getLsbD_eq
    intro i hi
    have a1 := congrArg (fun y => BitVec.getLsbD y i) (orF_mem fs f hf)
    simp only [BitVec.getLsbD_and, BitVec.getLsbD_or, BitVec.getLsbD_not, hi, decide_true, Bool.true_and] at a1 ⊢
    cases h1 : (M f.1 f.2).getLsbD i <;> simp_all
  rw [getF, getF, e]
end Go.Proofs.Ythigpfognkmegaa.F

namespace Go.Proofs.Ythigpfognkmegaa.F
open Go Go.Proofs Go.Proofs.YthigpfognkmegaaAbs
theorem set_plain {fs : List (Int × Int)} (c : goodF fs = true) (w x : BitVec 64) {i : Nat} (hi : i < fs.length) :
    ((putsF fs ((getsF w fs).set i x)).2 = false → fs[i].2 < 64 ∧ x >>> fs[i].2.toNat ≠ 0#64) ∧
    ((putsF fs ((getsF w fs).set i x)).2 = true → getsF ((putsF fs ((getsF w fs).set i x)).1 ||| (w &&& ~~~ (allF fs 0#64).1)) fs = (getsF w fs).set i x) := by
  have hg : getsF w fs = fs.map (getF w) := by rw [getsF, if_pos c]
  have hl : fs.length = ((fs.map (getF w)).set i x).length := by simp
  have hp : putsF fs ((getsF w fs).set i x) = putF fs ((fs.map (getF w)).set i x) 0#64 := by rw [putsF, hg, if_pos ⟨c, hl⟩]
  have hA : (allF fs 0#64).1 = orF fs := A_eq c
  rw [hp, hA]
  have hfs := allF_good fs _ c
  by_cases hx : okX fs[i] x
  · obtain ⟨h1, P, h2, h3, h4, h5⟩ := putF_ok fs _ 0#64 0#64 c hl (fun j a b => by
      by_cases hj : i = j
      · subst hj; simpa using hx
      · rw [List.getElem_set_ne hj]; simp only [List.getElem_map]; exact gets_okX w fs j a)
    refine ⟨fun h => absurd h (by rw [h1]; simp), fun _ => ?_⟩
    rw [h2, getsF, if_pos c, hg]
    have e := gets_put (fs := fs) (w := w) h4
    simp only [BitVec.zero_or] at *
    rw [e, h5]
  · have := putF_no fs ((fs.map (getF w)).set i x) 0#64 hl (fun h => hx (by have := h i hi (by simpa using hi); simpa using this))
    rw [this]
    refine ⟨fun _ => ?_, fun h => by cases h⟩
    have ho := hfs fs[i] (List.getElem_mem hi)
    have hne : x >>> fs[i].2.toNat ≠ 0#64 := fun h => hx ((okX_iff ho x).2 h)
    refine ⟨?_, hne⟩
    apply Classical.byContradiction; intro h64
    apply hne
    have : 64 ≤ fs[i].2.toNat := by omega
    apply BitVec.eq_of_getLsbD_eq
    intro j hj
    rw [BitVec.getLsbD_ushiftRight, BitVec.getLsbD_of_ge _ _ (by omega)]; simp
theorem TagSet (v : Value) (fs : List (Int × Int)) (w : BitVec 64) (i : Int) (x : BitVec 64) (g : AMem) (n : Nat) (hdom : ∀ i, g i ≠ none → i < n) (hfo : ∀ f ∈ fs, fOk f) (hv : rdF g v fs) (_ : -9223372036854775808 ≤ i) (_ : i ≤ 9223372036854775807) :
    FnC Try.prog 4 [v, U w, .int .i64 i, U x] g n (fun _ => False) (.bool true) g n := by
  refine fnC_of_rwp t4 hm rfl fun hdom => ?_
  obtain ⟨a, e', hvf⟩ := hv.form
  simp (maxSteps := 1000000) (disch := first | assumption | omega | rfl | decide) [↓rules, rules, lit_u64, aEval_U, splice_nil, splice_zero, splice_step, gset_gset, Int.ofNat_inj, U_junk, U_cells, U_cellOk, ub_and, ub_or, ub_xor, ub_andNot, ub_add, ub_sub, ub_mul, ub_shl, ub_shr, ub_shl', ub_shr', ub_eql, ub_neq, ub_lss, ub_leq, ub_gtr, ub_geq, rc4]
  refine rcall_quiet rfl (awake g n) ?_
  by_cases c1 : (70 : Int) < fs.length
  · simp (maxSteps := 1000000) (disch := first | assumption | omega | rfl | decide) [↓rules, rules, lit_u64, aEval_U, splice_nil, splice_zero, splice_step, gset_gset, Int.ofNat_inj, U_junk, U_cells, U_cellOk, ub_and, ub_or, ub_xor, ub_andNot, ub_add, ub_sub, ub_mul, ub_shl, ub_shr, ub_shl', ub_shr', ub_eql, ub_neq, ub_lss, ub_leq, ub_gtr, ub_geq, hvf, tu22, c1]
    refine done_q hdom (Kept.refl hdom) ?_ ?_ <;> rfl
  simp (maxSteps := 1000000) (disch := first | assumption | omega | rfl | decide) [↓rules, rules, lit_u64, aEval_U, splice_nil, splice_zero, splice_step, gset_gset, Int.ofNat_inj, U_junk, U_cells, U_cellOk, ub_and, ub_or, ub_xor, ub_andNot, ub_add, ub_sub, ub_mul, ub_shl, ub_shr, ub_shl', ub_shr', ub_eql, ub_neq, ub_lss, ub_leq, ub_gtr, ub_geq, hvf, tu22, c1]
  rw [← hvf]
  have hl : fs.length < 4611686018427387904 := by omega
  refine rcall_quiet rfl (Good v fs g n hl hfo hv) ?_
  cases c : goodF fs
  · simp (maxSteps := 1000000) (disch := first | assumption | omega | rfl | decide) [↓rules, rules, lit_u64, aEval_U, splice_nil, splice_zero, splice_step, gset_gset, Int.ofNat_inj, U_junk, U_cells, U_cellOk, ub_and, ub_or, ub_xor, ub_andNot, ub_add, ub_sub, ub_mul, ub_shl, ub_shr, ub_shl', ub_shr', ub_eql, ub_neq, ub_lss, ub_leq, ub_gtr, ub_geq]
    refine done_q hdom (Kept.refl hdom) ?_ ?_ <;> rfl
  by_cases c2 : i < 0
  · simp (maxSteps := 1000000) (disch := first | assumption | omega | rfl | decide) [↓rules, rules, lit_u64, aEval_U, splice_nil, splice_zero, splice_step, gset_gset, Int.ofNat_inj, U_junk, U_cells, U_cellOk, ub_and, ub_or, ub_xor, ub_andNot, ub_add, ub_sub, ub_mul, ub_shl, ub_shr, ub_shl', ub_shr', ub_eql, ub_neq, ub_lss, ub_leq, ub_gtr, ub_geq, c2]
    refine done_q hdom (Kept.refl hdom) ?_ ?_ <;> rfl
  by_cases c3 : (fs.length : Int) ≤ i
  · simp (maxSteps := 1000000) (disch := first | assumption | omega | rfl | decide) [↓rules, rules, lit_u64, aEval_U, splice_nil, splice_zero, splice_step, gset_gset, Int.ofNat_inj, U_junk, U_cells, U_cellOk, ub_and, ub_or, ub_xor, ub_andNot, ub_add, ub_sub, ub_mul, ub_shl, ub_shr, ub_shl', ub_shr', ub_eql, ub_neq, ub_lss, ub_leq, ub_gtr, ub_geq, c2, c3, hvf, tu22]
    refine done_q hdom (Kept.refl hdom) ?_ ?_ <;> rfl
  simp (maxSteps := 1000000) (disch := first | assumption | omega | rfl | decide) [↓rules, rules, lit_u64, aEval_U, splice_nil, splice_zero, splice_step, gset_gset, Int.ofNat_inj, U_junk, U_cells, U_cellOk, ub_and, ub_or, ub_xor, ub_andNot, ub_add, ub_sub, ub_mul, ub_shl, ub_shr, ub_shl', ub_shr', ub_eql, ub_neq, ub_lss, ub_leq, ub_gtr, ub_geq, c2, c3, hvf, tu22]
  rw [← hvf]
  obtain ⟨i, rfl⟩ : ∃ k : Nat, i = k := ⟨i.toNat, by omega⟩
  have hi : i < fs.length := by omega
  have hg : (getsF w fs).length = fs.length := by rw [getsF, if_pos c]; simp
  refine rcall_spec (Get w v fs g n hdom (by omega) hfo hv) rfl (fun _ h => h.elim) rfl fun r g1 n1 ⟨hr, k1⟩ => ?_
  obtain ⟨a2, e2, hrf⟩ := hr.form
  have hr0 : aRead g1 1 r = some ((getsF w fs).length, (getsF w fs).flatMap fun w => [U w]) := hr
  simp (maxSteps := 1000000) (disch := first | assumption | omega | rfl | decide) [↓rules, rules, lit_u64, aEval_U, splice_nil, splice_zero, splice_step, gset_gset, Int.ofNat_inj, U_junk, U_cells, U_cellOk, ub_and, ub_or, ub_xor, ub_andNot, ub_add, ub_sub, ub_mul, ub_shl, ub_shr, ub_shl', ub_shr', ub_eql, ub_neq, ub_lss, ub_leq, ub_gtr, ub_geq, hrf, hvf, tu26, tu22, hg]
  rw [← hvf]
  have hne : fs.length ≠ 0 := by omega
  have k2 := k1.new (.row [] true)
  have hr1 : aRead (gset g1 n1 (some (.row [] true))) 1 (.slice a2 fs.length e2) = some (fs.length, (getsF w fs).map U) := by
    have := hr.ext (((Kept.refl k1.dom).new (.row [] true)).ext k1.dom)
    rw [hrf] at this
    unfold Rd at this
    rw [hg, flatMap_one] at this; exact this
  have hco := cellOks (getsF w fs)
  have hz1 : fs.length * 8 ≤ 70368744177664 := by omega
  have hz2 : fs.length ≤ 70368744177664 := by omega
  have hsp : splice ((getsF w fs).map U) i [U x] = ((getsF w fs).set i x).map U := by
    rw [splice_one _ _ _ (by simp; omega), List.map_set]
  have hi1 : i + 1 ≤ fs.length := by omega
  have hn1 := k1.le
  simp (maxSteps := 1000000) (disch := first | assumption | omega | rfl | decide) [↓rules, rules, lit_u64, aEval_U, splice_nil, splice_zero, splice_step, gset_gset, Int.ofNat_inj, U_junk, U_cells, U_cellOk, ub_and, ub_or, ub_xor, ub_andNot, ub_add, ub_sub, ub_mul, ub_shl, ub_shr, ub_shl', ub_shr', ub_eql, ub_neq, ub_lss, ub_leq, ub_gtr, ub_geq, fillS_nil, fillS_cons, fillP_nil, fillP_cons, fillO_some, nthP_cons, zeroRow_one, aRead_at, aRead_nil, readR_row, appR_nil, appR_row, appR1_row, appR_zero, grow_row, do_buildL tu26 tz23 ts23 rfl, zeroRow_zero, aAppend1 tu26 ts23 tb23 tv23 rfl, hr1, hne, hco, hz1, hz2, tu26, ts23, hi, hi1, hg, hsp]
  refine ⟨hn1, by omega, ?_⟩
  have k3 := ((k1.drop hn1).skip).new (.row (((getsF w fs).map U).set i (U x)) true)
  have hgx : ((getsF w fs).set i x).length = fs.length := by simp [hg]
  have hr3 : rdW (gset (gset g1 n1 none) (n1 + 1) (some (.row (((getsF w fs).map U).set i (U x)) true))) (.slice (some ⟨n1 + 1, 0, none⟩) fs.length 1) ((getsF w fs).set i x) := by
    refine Rd.of_row (enc := fun w => [U w]) (fun _ => rfl) (by simp [gset]; exact ⟨rfl, rfl⟩) ?_ ?_ hgx.symm
    · simp [hg]
    · rw [flatMap_one, List.map_set]; simp [hg, List.take_of_length_le]
  generalize hg3 : gset (gset g1 n1 none) (n1 + 1) (some (.row (((getsF w fs).map U).set i (U x)) true)) = g3 at k3 hr3
  obtain ⟨hp1, hp2⟩ := set_plain c w x hi
  refine rcall_quiet rfl (Put v _ fs ((getsF w fs).set i x) g3 _ (by omega) (by omega) hfo (hv.ext (k3.ext hdom)) hr3) ?_
  generalize putsF fs ((getsF w fs).set i x) = pq at hp1 hp2
  obtain ⟨q, ok⟩ := pq
  cases ok
  · obtain ⟨f1, f2⟩ := hp1 rfl
    obtain ⟨b1, o1, h1, hb1, h2, h3⟩ := Rd.many (enc := encF) (e := 2) (fun _ => rfl) hv hi
    have e1 := h3 g3 (k3.ext hdom) Try.prog 3 1 (.int .i64 fs[i].2) (by decide) rfl ta3
    have hfi := allF_good fs _ c fs[i] (List.getElem_mem hi)
    have hsh : BitVec.ofInt 64 fs[i].2 = BitVec.ofNat 64 fs[i].2.toNat := by
      apply BitVec.eq_of_toNat_eq; rw [BitVec.toNat_ofInt, BitVec.toNat_ofNat]; omega
    have hsh2 : x >>> BitVec.ofInt 64 fs[i].2 = x >>> fs[i].2.toNat := by
      rw [hsh]
      show x >>> (BitVec.ofNat 64 fs[i].2.toNat).toNat = _
      rw [BitVec.toNat_ofNat, Nat.mod_eq_of_lt (by omega)]
    rw [h1]
    simp (maxSteps := 1000000) (disch := first | assumption | omega | rfl | decide) [↓rules, rules, lit_u64, aEval_U, splice_nil, splice_zero, splice_step, gset_gset, Int.ofNat_inj, U_junk, U_cells, U_cellOk, ub_and, ub_or, ub_xor, ub_andNot, ub_add, ub_sub, ub_mul, ub_shl, ub_shr, ub_shl', ub_shr', ub_eql, ub_neq, ub_lss, ub_leq, ub_gtr, ub_geq, tu22, ts34, hi, tf34_1, e1, f1, conv_to_u64 tu3 tu35, hsh2, f2]
    refine done_q hdom k3 ?_ ?_ <;> rfl
  · have f1 := hp2 rfl
    simp (maxSteps := 1000000) (disch := first | assumption | omega | rfl | decide) [↓rules, rules, lit_u64, aEval_U, splice_nil, splice_zero, splice_step, gset_gset, Int.ofNat_inj, U_junk, U_cells, U_cellOk, ub_and, ub_or, ub_xor, ub_andNot, ub_add, ub_sub, ub_mul, ub_shl, ub_shr, ub_shl', ub_shr', ub_eql, ub_neq, ub_lss, ub_leq, ub_gtr, ub_geq]
    refine rcall_quiet rfl (Rest w v fs g3 _ hl hfo (hv.ext (k3.ext hdom))) ?_
    simp (maxSteps := 1000000) (disch := first | assumption | omega | rfl | decide) [↓rules, rules, lit_u64, aEval_U, splice_nil, splice_zero, splice_step, gset_gset, Int.ofNat_inj, U_junk, U_cells, U_cellOk, ub_and, ub_or, ub_xor, ub_andNot, ub_add, ub_sub, ub_mul, ub_shl, ub_shr, ub_shl', ub_shr', ub_eql, ub_neq, ub_lss, ub_leq, ub_gtr, ub_geq]
    refine rcall_spec (Get _ v fs g3 _ k3.dom (by omega) hfo (hv.ext (k3.ext hdom))) rfl (fun _ h => h.elim) rfl fun r4 g4 n4 ⟨hr4, k4⟩ => ?_
    have f1 : getsF (q ||| w &&& ~~~ (allF fs 0#64).1) fs = (getsF w fs).set i x := f1
    rw [f1] at hr4
    simp (maxSteps := 1000000) (disch := first | assumption | omega | rfl | decide) [↓rules, rules, lit_u64, aEval_U, splice_nil, splice_zero, splice_step, gset_gset, Int.ofNat_inj, U_junk, U_cells, U_cellOk, ub_and, ub_or, ub_xor, ub_andNot, ub_add, ub_sub, ub_mul, ub_shl, ub_shr, ub_shl', ub_shr', ub_eql, ub_neq, ub_lss, ub_leq, ub_gtr, ub_geq]
    refine rcall_quiet rfl (words r4 _ _ _ g4 n4 (by omega) (by omega) hr4 (hr3.ext (k4.ext k3.dom))) ?_
    simp (maxSteps := 1000000) (disch := first | assumption | omega | rfl | decide) [↓rules, rules, lit_u64, aEval_U, splice_nil, splice_zero, splice_step, gset_gset, Int.ofNat_inj, U_junk, U_cells, U_cellOk, ub_and, ub_or, ub_xor, ub_andNot, ub_add, ub_sub, ub_mul, ub_shl, ub_shr, ub_shl', ub_shr', ub_eql, ub_neq, ub_lss, ub_leq, ub_gtr, ub_geq]
    refine done_q hdom (k3.trans k4) ?_ ?_ <;> rfl
end Go.Proofs.Ythigpfognkmegaa.F

namespace Go.Proofs.Ythigpfognkmegaa.F
open Go Go.Proofs Go.Proofs.YthigpfognkmegaaAbs
theorem tz75 : zeroFlat Try.prog 75 = some (List.replicate 64 (.bool false)) := by kernel_rfl
section
variable {P : Program} {t : TypeId} {xo yo : Operand}
theorem ub_quo (x y : BitVec 64) (h : y ≠ 0#64) : aBin P .quo t xo yo (U x) (U y) = some (U (x / y)) := by
  have hx := x.isLt
  have h0 : (y.toNat : Int) ≠ 0 := fun e => h (BitVec.eq_of_toNat_eq (by simpa using e))
  unfold U; rw [bin_quo h0]
  have : (x.toNat : Int).tdiv (y.toNat : Int) = ((x / y).toNat : Int) := by
    rw [BitVec.toNat_udiv, Int.tdiv_eq_ediv_of_nonneg (Int.natCast_nonneg _)]; rfl
  rw [this, wrap_u64_nat, Nat.mod_eq_of_lt (by exact (x / y).isLt)]
theorem ub_rem (x y : BitVec 64) (h : y ≠ 0#64) : aBin P .rem t xo yo (U x) (U y) = some (U (x % y)) := by
  have h0 : (y.toNat : Int) ≠ 0 := fun e => h (BitVec.eq_of_toNat_eq (by simpa using e))
  unfold U; rw [bin_rem h0]
  have : (x.toNat : Int).tmod (y.toNat : Int) = ((x % y).toNat : Int) := by
    rw [BitVec.toNat_umod, Int.tmod_eq_emod_of_nonneg (Int.natCast_nonneg _)]; rfl
  rw [this]
end
/-- A power of two. -/
def P2 (k : Nat) : BitVec 64 := 1#64 <<< k
theorem P2_zero : P2 0 = 1#64 := rfl
theorem P2_step (k : Nat) : 2#64 * P2 k = P2 (k + 1) := by
  unfold P2
  apply BitVec.eq_of_toNat_eq
  simp only [BitVec.toNat_mul, BitVec.toNat_shiftLeft, BitVec.toNat_ofNat, Nat.shiftLeft_eq, Nat.pow_succ]
  omega
theorem P2_toNat (k : Nat) (h : k < 64) : (P2 k).toNat = 2 ^ k := by
  unfold P2
  have h1 : (2 : Nat) ^ k < 2 ^ 64 := Nat.pow_lt_pow_right (by decide) h
  rw [BitVec.toNat_shiftLeft, Nat.shiftLeft_eq]
  simp only [BitVec.toNat_ofNat]
  rw [Nat.mod_eq_of_lt (a := 1) (by decide), Nat.one_mul, Nat.mod_eq_of_lt h1]
theorem two (m : Nat) (hm' : m ≤ 100) (g : AMem) (n : Nat) : FnC Try.prog 52 [.int .i64 m] g n (fun _ => False) (U (P2 m)) g n := by
  refine fnC_of_rwp t52 hm rfl fun hdom => ?_
  simp (maxSteps := 1000000) (disch := first | assumption | omega | rfl | decide) [↓rules, rules, lit_u64, aEval_U, splice_nil, splice_zero, splice_step, gset_gset, Int.ofNat_inj, U_junk, U_cells, U_cellOk, ub_and, ub_or, ub_xor, ub_andNot, ub_add, ub_sub, ub_mul, ub_shl, ub_shr, ub_shl', ub_shr', ub_eql, ub_neq, ub_lss, ub_leq, ub_gtr, ub_geq, rc52]
  refine rwp_loop (fun k l g' n' => ∃ i, k = m - i ∧ i ≤ m ∧ g' = g ∧ n' = n ∧ l = [(0, .int .i64 m), (3, U (P2 i)), (4, .int .i64 i)]) ?_ (k := m) ?_
  · rintro k l g' n' ⟨i, rfl, hi, rfl, rfl, rfl⟩
    simp (maxSteps := 1000000) (disch := first | assumption | omega | rfl | decide) [↓rules, rules, lit_u64, aEval_U, splice_nil, splice_zero, splice_step, gset_gset, Int.ofNat_inj, U_junk, U_cells, U_cellOk, ub_and, ub_or, ub_xor, ub_andNot, ub_add, ub_sub, ub_mul, ub_shl, ub_shr, ub_shl', ub_shr', ub_eql, ub_neq, ub_lss, ub_leq, ub_gtr, ub_geq, rc52l0]
    refine rcond_dec (fun hlt => ?_) (fun hlt => ?_)
    · have e2 : IntKind.i64.wrap ((i : Int) + 1) = (i : Int) + 1 := wrap_i64 (by omega) (by omega)
      simp (maxSteps := 1000000) (disch := first | assumption | omega | rfl | decide) [↓rules, rules, lit_u64, aEval_U, splice_nil, splice_zero, splice_step, gset_gset, Int.ofNat_inj, U_junk, U_cells, U_cellOk, ub_and, ub_or, ub_xor, ub_andNot, ub_add, ub_sub, ub_mul, ub_shl, ub_shr, ub_shl', ub_shr', ub_eql, ub_neq, ub_lss, ub_leq, ub_gtr, ub_geq, P2_step, e2]
      refine ⟨m - (i + 1), by omega, i + 1, rfl, by omega, rfl, rfl⟩
    · have : i = m := by omega
      subst this
      refine done_q hdom (Kept.refl hdom) ?_ ?_ <;> rfl
  · exact ⟨0, by omega, by omega, rfl, rfl, rfl⟩
theorem bit_div (w : BitVec 64) (j : Nat) (hj : j < 64) : decide (w / P2 j % 2#64 = 1#64) = w.getLsbD j := by
  rw [BitVec.getLsbD, Nat.testBit_eq_decide_div_mod_eq]
  rw [decide_eq_decide]
  have e : (w / P2 j % 2#64).toNat = w.toNat / 2 ^ j % 2 := by rw [BitVec.toNat_umod, BitVec.toNat_udiv, P2_toNat j hj]; rfl
  constructor
  · intro h; rw [← e, h]; rfl
  · intro h; apply BitVec.eq_of_toNat_eq; rw [e, h]; rfl
theorem P2_ne (j : Nat) (hj : j < 64) : P2 j ≠ 0#64 := fun h => by
  have := congrArg BitVec.toNat h
  rw [P2_toNat j hj] at this
  have h2 : 0 < (2 : Nat) ^ j := Nat.pow_pos (by decide)
  simp at this
theorem Bit (w : BitVec 64) (j : Nat) (hj : j < 64) (g : AMem) (n : Nat) : FnC Try.prog 53 [U w, .int .i64 j] g n (fun _ => False) (.bool (w.getLsbD j)) g n := by
  refine fnC_of_rwp t53 hm rfl fun hdom => ?_
  have hne := P2_ne j hj
  simp (maxSteps := 1000000) (disch := first | assumption | omega | rfl | decide) [↓rules, rules, lit_u64, aEval_U, splice_nil, splice_zero, splice_step, gset_gset, Int.ofNat_inj, U_junk, U_cells, U_cellOk, ub_and, ub_or, ub_xor, ub_andNot, ub_add, ub_sub, ub_mul, ub_shl, ub_shr, ub_shl', ub_shr', ub_eql, ub_neq, ub_lss, ub_leq, ub_gtr, ub_geq, rc53]
  refine rcall_quiet rfl (two j (by omega) _ _) ?_
  simp (maxSteps := 1000000) (disch := first | assumption | omega | rfl | decide) [↓rules, rules, lit_u64, aEval_U, splice_nil, splice_zero, splice_step, gset_gset, Int.ofNat_inj, U_junk, U_cells, U_cellOk, ub_and, ub_or, ub_xor, ub_andNot, ub_add, ub_sub, ub_mul, ub_shl, ub_shr, ub_shl', ub_shr', ub_eql, ub_neq, ub_lss, ub_leq, ub_gtr, ub_geq, ub_quo, ub_rem, hne, bit_div w j hj]
  refine done_q hdom (Kept.refl hdom) ?_ ?_ <;> rfl
theorem pairs (v : Value) (fs : List (Int × Int)) (g : AMem) (n : Nat) (hdom : ∀ i, g i ≠ none → i < n) (hl : fs.length ≤ 1000) (hv : rdF g v fs) :
    FnS Try.prog 39 [v] g n (fun _ => False) fun r g' n' => rdF g' r fs ∧ Kept g n g' n' := by
  refine fnS_of_rwp t39 hm rfl hdom ?_
  obtain ⟨a, e', hvf⟩ := hv.form
  simp (maxSteps := 1000000) (disch := first | assumption | omega | rfl | decide) [↓rules, rules, lit_u64, aEval_U, splice_nil, splice_zero, splice_step, gset_gset, Int.ofNat_inj, U_junk, U_cells, U_cellOk, ub_and, ub_or, ub_xor, ub_andNot, ub_add, ub_sub, ub_mul, ub_shl, ub_shr, ub_shl', ub_shr', ub_eql, ub_neq, ub_lss, ub_leq, ub_gtr, ub_geq, rc39]
  refine rwp_loop (fun k l g' n' => ∃ i s, k = fs.length - i ∧ i ≤ fs.length ∧ Kept g n g' n' ∧ (i = 0 ∧ s = .slice none 0 0 ∨ 0 < i ∧ ∃ b, n ≤ b ∧ s = .slice (some ⟨b, 0, none⟩) i 2 ∧ g' b = some (.row ((fs.take i).flatMap encF) true)) ∧ l = [(0, v), (3, s), (4, .int .i64 i)]) ?_ (k := fs.length) ?_
  · rintro k l g' n' ⟨i, s, rfl, hi, hk, hs, rfl⟩
    simp (maxSteps := 1000000) (disch := first | assumption | omega | rfl | decide) [↓rules, rules, lit_u64, aEval_U, splice_nil, splice_zero, splice_step, gset_gset, Int.ofNat_inj, U_junk, U_cells, U_cellOk, ub_and, ub_or, ub_xor, ub_andNot, ub_add, ub_sub, ub_mul, ub_shl, ub_shr, ub_shl', ub_shr', ub_eql, ub_neq, ub_lss, ub_leq, ub_gtr, ub_geq, rc39l0, hvf, tu22]
    refine rcond_dec (fun hlt => ?_) (fun hlt => ?_)
    · obtain ⟨b1, o1, h1, hb1, h2, h3⟩ := Rd.many (enc := encF) (e := 2) (fun _ => rfl) hv hlt
      have e1 := h3 g' (hk.ext hdom) Try.prog 3 0 (.int .i64 fs[i].1) (by decide) rfl ta3
      have e2 := h3 g' (hk.ext hdom) Try.prog 3 1 (.int .i64 fs[i].2) (by decide) rfl ta3
      rw [Nat.add_zero] at e1
      have e3 : IntKind.i64.wrap ((i : Int) + 1) = (i : Int) + 1 := wrap_i64 (by omega) (by omega)
      have hn := hk.le
      rw [← hvf, h1]
      have k2 := hk.new (.row (encF fs[i]) true)
      have htk : (fs.take (i + 1)).flatMap encF = (fs.take i).flatMap encF ++ encF fs[i] := by
        rw [List.take_add_one, List.getElem?_eq_getElem hlt, List.flatMap_append]; simp
      rcases hs with ⟨hi0, rfl⟩ | ⟨hi0, b, hb, rfl, hgb⟩
      · simp (maxSteps := 1000000) (disch := first | assumption | omega | rfl | decide) [↓rules, rules, lit_u64, aEval_U, splice_nil, splice_zero, splice_step, gset_gset, Int.ofNat_inj, U_junk, U_cells, U_cellOk, ub_and, ub_or, ub_xor, ub_andNot, ub_add, ub_sub, ub_mul, ub_shl, ub_shr, ub_shl', ub_shr', ub_eql, ub_neq, ub_lss, ub_leq, ub_gtr, ub_geq, fillS_nil, fillS_cons, fillP_nil, fillP_cons, fillO_some, nthP_cons, zeroRow_one, aRead_at, aRead_nil, readR_row, appR_nil, appR_row, appR1_row, appR_zero, grow_row, tu22, ts34, hlt, tf34_0, tf34_1, e1, e2, do_buildA tz73 tu73 ts3, do_buildL tu63 tz73 ts73 rfl, zeroRow_lit, zeroRow_zero, aAppend_eq tu63 ts73 tb73 tv73 rfl, e3]
        refine ⟨fs.length - (i + 1), by omega, i + 1, rfl, by omega, (hk.new _).new _, .slice (some ⟨n' + 1, 0, none⟩) 1 2, .inr ⟨by omega, n' + 1, by omega, by rw [hi0], ?_⟩, rfl, by simp⟩
        rw [if_pos rfl, htk, show List.take i fs = [] by rw [hi0]; rfl]; rfl
      · have hbn : b ≠ n' := by have := hk.lt hgb; omega
        have z1 : (i + 1) * 16 ≤ 70368744177664 := by omega
        have z2 : i ≤ 70368744177663 := by omega
        have z3 : (List.flatMap encF (List.take i fs)).length = i * 2 := by
          rw [flat_length (enc := encF) (e := 2) (fun _ => rfl)]; simp; omega
        simp (maxSteps := 1000000) (disch := first | assumption | omega | rfl | decide) [↓rules, rules, lit_u64, aEval_U, splice_nil, splice_zero, splice_step, gset_gset, Int.ofNat_inj, U_junk, U_cells, U_cellOk, ub_and, ub_or, ub_xor, ub_andNot, ub_add, ub_sub, ub_mul, ub_shl, ub_shr, ub_shl', ub_shr', ub_eql, ub_neq, ub_lss, ub_leq, ub_gtr, ub_geq, fillS_nil, fillS_cons, fillP_nil, fillP_cons, fillO_some, nthP_cons, zeroRow_one, aRead_at, aRead_nil, readR_row, appR_nil, appR_row, appR1_row, appR_zero, grow_row, tu22, ts34, hlt, tf34_0, tf34_1, e1, e2, do_buildA tz73 tu73 ts3, do_buildL tu63 tz73 ts73 rfl, zeroRow_lit, zeroRow_zero, aAppend_eq tu63 ts73 tb73 tv73 rfl, e3, hbn, z1, z2, hgb, z3]
        refine ⟨hb, fs.length - (i + 1), by omega, i + 1, rfl, by omega, ((hk.new _).drop hb).new _, .slice (some ⟨n' + 1, 0, none⟩) (i + 1) 2, .inr ⟨by omega, n' + 1, by omega, rfl, ?_⟩, rfl, by simp⟩
        rw [if_pos rfl, htk]; rfl
    · have hi' : i = fs.length := by omega
      subst hi'
      refine sdone_ret rfl ⟨?_, hk⟩
      rcases hs with ⟨hi0, rfl⟩ | ⟨hi0, b, hb, rfl, hgb⟩
      · have : fs = [] := List.length_eq_zero_iff.1 hi0
        subst this; exact Rd.nil
      · show Rd g' 2 encF (.slice (some ⟨b, 0, none⟩) fs.length 2) _
        rw [List.take_length] at hgb
        have z3 : (List.flatMap encF fs).length = fs.length * 2 := flat_length (enc := encF) (e := 2) (fun _ => rfl) fs
        exact Rd.of_row (enc := encF) (fun _ => rfl) hgb (by omega) (by rw [List.drop_zero, List.take_of_length_le (by omega)]) rfl
  · exact ⟨0, _, by omega, by omega, Kept.refl hdom, .inl ⟨rfl, rfl⟩, rfl⟩
end Go.Proofs.Ythigpfognkmegaa.F

namespace Go.Proofs.Ythigpfognkmegaa.F
open Go Go.Proofs Go.Proofs.YthigpfognkmegaaAbs
theorem rowB_none' (N : Nat) : List.replicate N (Value.bool false) = rowB N (fun _ => false) := by
  apply List.ext_getElem (by simp [rowB])
  intro i h1 h2
  simp [rowB]
/-- The heap while bits are told: the used ones in a row of 64. -/
def heapF (g : AMem) (n : Nat) (S : Nat → Bool) : AMem := gset g n (some (.row (rowB 64 S) true))
theorem heapF_n (g : AMem) (n : Nat) (S : Nat → Bool) : heapF g n S n = some (.row (rowB 64 S) true) := by simp [heapF, gset]
theorem heapF_set (g : AMem) (n : Nat) (S S' : Nat → Bool) : gset (heapF g n S) n (some (.row (rowB 64 S') true)) = heapF g n S' := by rw [heapF, gset_gset]; rfl
theorem heapF_congr (g : AMem) (n : Nat) {S S' : Nat → Bool} (h : ∀ j, j < 64 → S j = S' j) : heapF g n S = heapF g n S' := by rw [heapF, rowB_congr h]; rfl
theorem and_M_iff (w : BitVec 64) (p q : Nat) (h : p + q ≤ 64) : w &&& M p q = 0#64 ↔ ∀ j, j < q → w.getLsbD (p + j) = false := by
  have hb := fun i hi => M_bit (p : Int) (q : Int) (by omega) (by omega) (by omega) i hi
  constructor
  · intro h0 j hj
    have := congrArg (fun y => BitVec.getLsbD y (p + j)) h0
    simp only [BitVec.getLsbD_and, BitVec.getLsbD_zero] at this
    rw [hb (p + j) (by omega)] at this
    simpa [show p + j < p + q by omega] using this
  · intro h0
    apply BitVec.eq_of_getLsbD_eq
    intro i hi
    rw [BitVec.getLsbD_and, hb i hi, BitVec.getLsbD_zero]
    by_cases c : p ≤ i ∧ i < p + q
    · have := h0 (i - p) (by omega)
      rw [show p + (i - p) = i by omega] at this
      simp [this]
    · simp; intro _ _; omega
theorem mark_bits (w : BitVec 64) (p q : Nat) (h : p + q ≤ 64) (j : Nat) (hj : j < 64) : mark w.getLsbD p (p + q) j = (w ||| M p q).getLsbD j := by
  rw [BitVec.getLsbD_or, M_bit (p : Int) (q : Int) (by omega) (by omega) (by omega) j hj, mark]
  simp
theorem Fields (v : Value) (fs : List (Int × Int)) (g : AMem) (n : Nat) (hl : fs.length ≤ 1000) (hfo : ∀ f ∈ fs, fOk f) (hv : rdF g v fs) : FnC Try.prog 42 [v] g n (fun _ => False) (.bool (goodF fs)) g n := by
  refine fnC_of_rwp t42 hm rfl fun hdom => ?_
  obtain ⟨a, e', hvf⟩ := hv.form
  have kn : ∀ S, Kept g n (heapF g n S) (n + 1) := fun S => (Kept.refl hdom).new _
  simp (maxSteps := 1000000) (disch := first | assumption | omega | rfl | decide) [↓rules, rules, lit_u64, aEval_U, splice_nil, splice_zero, splice_step, gset_gset, Int.ofNat_inj, U_junk, U_cells, U_cellOk, ub_and, ub_or, ub_xor, ub_andNot, ub_add, ub_sub, ub_mul, ub_shl, ub_shr, ub_shl', ub_shr', ub_eql, ub_neq, ub_lss, ub_leq, ub_gtr, ub_geq, rc42, tz75]
  refine rwp_loop (fun k l g' n' => ∃ i w, k = fs.length - i ∧ i ≤ fs.length ∧ allF (fs.drop i) w = allF fs 0#64 ∧ g' = heapF g n w.getLsbD ∧ n' = n + 1 ∧ l = [(0, v), (3, .pointer (some ⟨n, 0, none⟩)), (4, .int .i64 i)]) ?_ (k := fs.length) ?_
  · rintro k l g' n' ⟨i, w, rfl, hi, hw, rfl, rfl, rfl⟩
    simp (maxSteps := 1000000) (disch := first | assumption | omega | rfl | decide) [↓rules, rules, lit_u64, aEval_U, splice_nil, splice_zero, splice_step, gset_gset, Int.ofNat_inj, U_junk, U_cells, U_cellOk, ub_and, ub_or, ub_xor, ub_andNot, ub_add, ub_sub, ub_mul, ub_shl, ub_shr, ub_shl', ub_shr', ub_eql, ub_neq, ub_lss, ub_leq, ub_gtr, ub_geq, rc42l1, hvf, tu63]
    refine rcond_dec (fun hlt => ?_) (fun hlt => ?_)
    · obtain ⟨b1, o1, h1, hb1, h2, h3⟩ := Rd.many (enc := encF) (e := 2) (fun _ => rfl) hv hlt
      have e1 := fun S => h3 _ ((kn S).ext hdom) Try.prog 3 0 (.int .i64 fs[i].1) (by decide) rfl ta3
      have e2 := fun S => h3 _ ((kn S).ext hdom) Try.prog 3 1 (.int .i64 fs[i].2) (by decide) rfl ta3
      simp only [Nat.add_zero] at e1
      have e3 : IntKind.i64.wrap ((i : Int) + 1) = (i : Int) + 1 := wrap_i64 (by omega) (by omega)
      have hdrop : fs.drop i = fs[i] :: fs.drop (i + 1) := List.drop_eq_getElem_cons hlt
      have hf := hfo fs[i] (List.getElem_mem hlt)
      rw [hdrop, allF] at hw
      rw [← hvf, h1]
      generalize hfe : fs[i] = f at *
      obtain ⟨p, q⟩ := f
      obtain ⟨hf1, hf2, hf3, hf4⟩ := hf
      simp only at hf1 hf2 hf3 hf4 e1 e2
      have bad : ¬ okF p q w → goodF fs = false := fun h => by rw [goodF, ← hw, if_neg h]
      by_cases c1 : p < 0
      · simp (maxSteps := 1000000) (disch := first | assumption | omega | rfl | decide) [↓rules, rules, lit_u64, aEval_U, splice_nil, splice_zero, splice_step, gset_gset, Int.ofNat_inj, U_junk, U_cells, U_cellOk, ub_and, ub_or, ub_xor, ub_andNot, ub_add, ub_sub, ub_mul, ub_shl, ub_shr, ub_shl', ub_shr', ub_eql, ub_neq, ub_lss, ub_leq, ub_gtr, ub_geq, tu63, ts73, hlt, tu73, aIndexAddrR_array _ ts3, e1, e2, c1]
        refine done_q hdom (kn _) ?_ ?_; · rfl
        rw [bad (by unfold okF; omega)]; rfl
      by_cases c2 : 63 < p
      · simp (maxSteps := 1000000) (disch := first | assumption | omega | rfl | decide) [↓rules, rules, lit_u64, aEval_U, splice_nil, splice_zero, splice_step, gset_gset, Int.ofNat_inj, U_junk, U_cells, U_cellOk, ub_and, ub_or, ub_xor, ub_andNot, ub_add, ub_sub, ub_mul, ub_shl, ub_shr, ub_shl', ub_shr', ub_eql, ub_neq, ub_lss, ub_leq, ub_gtr, ub_geq, tu63, ts73, hlt, tu73, aIndexAddrR_array _ ts3, e1, e2, c1, c2]
        refine done_q hdom (kn _) ?_ ?_; · rfl
        rw [bad (by unfold okF; omega)]; rfl
      by_cases c3 : q < 1
      · simp (maxSteps := 1000000) (disch := first | assumption | omega | rfl | decide) [↓rules, rules, lit_u64, aEval_U, splice_nil, splice_zero, splice_step, gset_gset, Int.ofNat_inj, U_junk, U_cells, U_cellOk, ub_and, ub_or, ub_xor, ub_andNot, ub_add, ub_sub, ub_mul, ub_shl, ub_shr, ub_shl', ub_shr', ub_eql, ub_neq, ub_lss, ub_leq, ub_gtr, ub_geq, tu63, ts73, hlt, tu73, aIndexAddrR_array _ ts3, e1, e2, c1, c2, c3]
        refine done_q hdom (kn _) ?_ ?_; · rfl
        rw [bad (by unfold okF; omega)]; rfl
      have e4 : IntKind.i64.wrap (64 - p) = 64 - p := wrap_i64 (by omega) (by omega)
      by_cases c4 : 64 - p < q
      · simp (maxSteps := 1000000) (disch := first | assumption | omega | rfl | decide) [↓rules, rules, lit_u64, aEval_U, splice_nil, splice_zero, splice_step, gset_gset, Int.ofNat_inj, U_junk, U_cells, U_cellOk, ub_and, ub_or, ub_xor, ub_andNot, ub_add, ub_sub, ub_mul, ub_shl, ub_shr, ub_shl', ub_shr', ub_eql, ub_neq, ub_lss, ub_leq, ub_gtr, ub_geq, tu63, ts73, hlt, tu73, aIndexAddrR_array _ ts3, e1, e2, c1, c2, c3, e4, c4]
        refine done_q hdom (kn _) ?_ ?_; · rfl
        rw [bad (by unfold okF; omega)]; rfl
      simp (maxSteps := 1000000) (disch := first | assumption | omega | rfl | decide) [↓rules, rules, lit_u64, aEval_U, splice_nil, splice_zero, splice_step, gset_gset, Int.ofNat_inj, U_junk, U_cells, U_cellOk, ub_and, ub_or, ub_xor, ub_andNot, ub_add, ub_sub, ub_mul, ub_shl, ub_shr, ub_shl', ub_shr', ub_eql, ub_neq, ub_lss, ub_leq, ub_gtr, ub_geq, tu63, ts73, hlt, tu73, aIndexAddrR_array _ ts3, e1, e2, c1, c2, c3, e4, c4]
      obtain ⟨p, rfl⟩ : ∃ k : Nat, p = k := ⟨p.toNat, by omega⟩
      obtain ⟨q, rfl⟩ : ∃ k : Nat, q = k := ⟨q.toNat, by omega⟩
      rw [← h1]
      refine rwp_loop (fun k l g' n' => ∃ j, k = q - j ∧ j ≤ q ∧ (∀ m, m < j → w.getLsbD (p + m) = false) ∧ g' = heapF g n (mark w.getLsbD p (p + j)) ∧ n' = n + 1 ∧ l = [(0, v), (3, .pointer (some ⟨n, 0, none⟩)), (4, .int .i64 i), (5, .int .i64 j)]) ?_ (k := q) ?_
      · rintro k l g' n' ⟨j, rfl, hj, hfree, rfl, rfl, rfl⟩
        simp (maxSteps := 1000000) (disch := first | assumption | omega | rfl | decide) [↓rules, rules, lit_u64, aEval_U, splice_nil, splice_zero, splice_step, gset_gset, Int.ofNat_inj, U_junk, U_cells, U_cellOk, ub_and, ub_or, ub_xor, ub_andNot, ub_add, ub_sub, ub_mul, ub_shl, ub_shr, ub_shl', ub_shr', ub_eql, ub_neq, ub_lss, ub_leq, ub_gtr, ub_geq, rc42l0, h1, tu63, ts73, hlt, tu73, aIndexAddrR_array _ ts3, e1, e2]
        refine rcond_dec (fun hjq => ?_) (fun hjq => ?_)
        · have e5 : IntKind.i64.wrap ((p : Int) + j) = (p : Int) + j := wrap_i64 (by omega) (by omega)
          have e6 : ((p : Int) + j).toNat = p + j := by omega
          have e7 : 0 ≤ (p : Int) + j := by omega
          have e8 : (p : Int) + j < 64 := by omega
          have e9 : IntKind.i64.wrap ((j : Int) + 1) = (j : Int) + 1 := wrap_i64 (by omega) (by omega)
          have hpj : p + j < 64 := by omega
          have hpj1 : p + j + 1 ≤ 64 := by omega
          have hnth := rowB_nth 64 (mark w.getLsbD p (p + j)) (p + j) hpj
          have hval : mark w.getLsbD p (p + j) (p + j) = w.getLsbD (p + j) := by simp [mark]
          rw [hval] at hnth
          have hset := rowB_set 64 (mark w.getLsbD p (p + j)) (p + j) hpj
          rw [mark_step _ p (p + j) (by omega)] at hset
          have hlen := rowB_length 64 (mark w.getLsbD p (p + j))
          have hg1 := heapF_n g n (mark w.getLsbD p (p + j))
          have hs1 := heapF_set g n (mark w.getLsbD p (p + j)) (mark w.getLsbD p (p + j + 1))
          cases hbit : w.getLsbD (p + j)
          · rw [hbit] at hnth
            simp (maxSteps := 1000000) (disch := first | assumption | omega | rfl | decide) [↓rules, rules, lit_u64, aEval_U, splice_nil, splice_zero, splice_step, gset_gset, Int.ofNat_inj, U_junk, U_cells, U_cellOk, ub_and, ub_or, ub_xor, ub_andNot, ub_add, ub_sub, ub_mul, ub_shl, ub_shr, ub_shl', ub_shr', ub_eql, ub_neq, ub_lss, ub_leq, ub_gtr, ub_geq, h1, tu63, ts73, hlt, tu73, aIndexAddrR_array _ ts3, aIndexAddrR_array _ ts4, e1, e2, e5, e6, e7, e8, tu75, ts4, ta4, hg1, hnth, hset, hlen, hpj, hpj1, hs1, e9]
            refine ⟨q - (j + 1), by omega, j + 1, rfl, by omega, fun m hm => ?_, rfl, by simp⟩
            by_cases hmj : m = j
            · subst hmj; exact hbit
            · exact hfree m (by omega)
          · rw [hbit] at hnth
            simp (maxSteps := 1000000) (disch := first | assumption | omega | rfl | decide) [↓rules, rules, lit_u64, aEval_U, splice_nil, splice_zero, splice_step, gset_gset, Int.ofNat_inj, U_junk, U_cells, U_cellOk, ub_and, ub_or, ub_xor, ub_andNot, ub_add, ub_sub, ub_mul, ub_shl, ub_shr, ub_shl', ub_shr', ub_eql, ub_neq, ub_lss, ub_leq, ub_gtr, ub_geq, h1, tu63, ts73, hlt, tu73, aIndexAddrR_array _ ts3, aIndexAddrR_array _ ts4, e1, e2, e5, e6, e7, e8, tu75, ts4, ta4, hg1, hnth, hset, hlen, hpj, hpj1, hs1, e9]
            refine done_q hdom (kn _) ?_ ?_; · rfl
            rw [bad (fun h => by
              have := (and_M_iff w p q (by omega)).1 h.2.2.2.2 j (by omega)
              rw [hbit] at this; cases this)]; rfl
        · have hjq' : j = q := by omega
          subst hjq'
          have good : okF p j w := by
            unfold okF; exact ⟨by omega, by omega, by omega, by omega, (and_M_iff w p j (by omega)).2 hfree⟩
          rw [if_pos good] at hw
          refine ⟨fs.length - (i + 1), by omega, i + 1, rfl, by omega, _, hw, ?_, by rw [e3]; rfl⟩
          exact heapF_congr g n (fun m hm => mark_bits w p j (by omega) m hm)
      · exact ⟨0, by omega, by omega, fun m hm => by omega, by rw [Nat.add_zero, mark_none], rfl, rfl⟩
    · refine done_q hdom (kn _) ?_ ?_; · rfl
      have hi' : i = fs.length := by omega
      rw [hi', List.drop_length, allF] at hw
      rw [goodF, ← hw]; rfl
  · exact ⟨0, 0#64, by simp, by simp, by simp, by rw [heapF_congr g n (S' := fun _ => false) (fun j _ => by simp)]; unfold heapF; rw [← rowB_none']; rfl, rfl, rfl⟩
end Go.Proofs.Ythigpfognkmegaa.F

namespace Go.Proofs.Ythigpfognkmegaa.F
open Go Go.Proofs Go.Proofs.YthigpfognkmegaaAbs
/-- Fields do not overlap. -/
theorem apart : ∀ (fs : List (Int × Int)) (m : BitVec 64), (allF fs m).2 = true → ∀ i j (hi : i < fs.length) (hj : j < fs.length), i < j → M fs[i].1 fs[i].2 &&& M fs[j].1 fs[j].2 = 0#64
  | [], m, h, i, j, hi, hj, hij => by simp at hi
  | f :: fs, m, h, i, j, hi, hj, hij => by
    rw [allF] at h
    split at h
    case isFalse => cases h
    obtain ⟨j, rfl⟩ : ∃ k, j = k + 1 := ⟨j - 1, by omega⟩
    cases i with
    | zero =>
      have hj' : j < fs.length := by simpa using hj
      have := allF_apart fs _ h fs[j] (List.getElem_mem hj')
      apply BitVec.eq_of_getLsbD_eq
      intro b hb
      have h2 := congrArg (fun y => BitVec.getLsbD y b) this
      simp only [BitVec.getLsbD_and, BitVec.getLsbD_or, BitVec.getLsbD_zero, List.getElem_cons_zero, List.getElem_cons_succ] at h2 ⊢
      cases h3 : (M f.1 f.2).getLsbD b <;> simp_all
    | succ i =>
      exact apart fs _ h i j (by simpa using hi) (by simpa using hj) (by omega)
theorem mul_P2 (x : BitVec 64) (k : Nat) : x * P2 k = x <<< k := by
  unfold P2
  apply BitVec.eq_of_toNat_eq
  simp only [BitVec.toNat_mul, BitVec.toNat_shiftLeft, BitVec.toNat_ofNat, Nat.shiftLeft_eq]
  rw [Nat.mod_eq_of_lt (a := 1) (by decide), Nat.one_mul, Nat.mul_mod_mod]
theorem ge_P2 {f : Int × Int} (h : okS f) (x : BitVec 64) : (f.2 < 64 ∧ P2 f.2.toNat ≤ x) ↔ ¬ okX f x := by
  have hx := x.isLt
  rw [okX_iff h]
  obtain ⟨h1, h2, h3, h4⟩ := h
  by_cases c : f.2 < 64
  · rw [BitVec.le_def, P2_toNat _ (by omega)]
    constructor
    · rintro ⟨_, h⟩ h0
      have := congrArg BitVec.toNat h0
      rw [BitVec.toNat_ushiftRight, Nat.shiftRight_eq_div_pow] at this
      have h5 : x.toNat / 2 ^ f.2.toNat = 0 := this
      rcases Nat.div_eq_zero_iff.1 h5 with h6 | h6
      · exact absurd h6 (Nat.ne_of_gt (Nat.pow_pos (by decide)))
      · omega
    · intro h0
      refine ⟨c, ?_⟩
      apply Classical.byContradiction; intro h5
      apply h0
      apply BitVec.eq_of_toNat_eq
      rw [BitVec.toNat_ushiftRight, Nat.shiftRight_eq_div_pow]
      exact Nat.div_eq_of_lt (by omega)
  · constructor
    · rintro ⟨h, _⟩; exact absurd h c
    · intro h0
      exfalso; apply h0
      apply BitVec.eq_of_toNat_eq
      rw [BitVec.toNat_ushiftRight, Nat.shiftRight_eq_div_pow]
      have h64 : (2 : Nat) ^ 64 ≤ 2 ^ f.2.toNat := Nat.pow_le_pow_right (by decide) (by omega)
      exact Nat.div_eq_of_lt (by omega)
theorem add_or (x y : BitVec 64) (h : x &&& y = 0#64) : x + y = x ||| y := BitVec.add_eq_or_of_and_eq_zero x y h
theorem VerR (x : BitVec 64) (v : Int) (g : AMem) (n : Nat) : FnC Try.prog 41 [U x, .int .i64 v] g n (fun _ => False) (.tuple #[U (makeV x v).1, .bool (makeV x v).2]) g n := by
  refine fnC_of_rwp t41 hm rfl fun hdom => ?_
  have hp : P2 48 = 281474976710656#64 := by decide
  have bad : ¬ (x < 281474976710656#64 ∧ 0 ≤ v ∧ v ≤ 65535) → makeV x v = (0#64, false) := fun h => if_neg h
  simp (maxSteps := 1000000) (disch := first | assumption | omega | rfl | decide) [↓rules, rules, lit_u64, aEval_U, splice_nil, splice_zero, splice_step, gset_gset, Int.ofNat_inj, U_junk, U_cells, U_cellOk, ub_and, ub_or, ub_xor, ub_andNot, ub_add, ub_sub, ub_mul, ub_shl, ub_shr, ub_shl', ub_shr', ub_eql, ub_neq, ub_lss, ub_leq, ub_gtr, ub_geq, rc41]
  refine rcall_quiet rfl (two 48 (by omega) _ _) ?_
  rw [hp]
  by_cases c1 : 281474976710656#64 ≤ x
  · simp (maxSteps := 1000000) (disch := first | assumption | omega | rfl | decide) [↓rules, rules, lit_u64, aEval_U, splice_nil, splice_zero, splice_step, gset_gset, Int.ofNat_inj, U_junk, U_cells, U_cellOk, ub_and, ub_or, ub_xor, ub_andNot, ub_add, ub_sub, ub_mul, ub_shl, ub_shr, ub_shl', ub_shr', ub_eql, ub_neq, ub_lss, ub_leq, ub_gtr, ub_geq, c1]
    refine done_q hdom (Kept.refl hdom) ?_ ?_; · rfl
    rw [bad (fun h => absurd h.1 (BitVec.not_lt.2 c1))]; rfl
  by_cases c2 : v < 0
  · simp (maxSteps := 1000000) (disch := first | assumption | omega | rfl | decide) [↓rules, rules, lit_u64, aEval_U, splice_nil, splice_zero, splice_step, gset_gset, Int.ofNat_inj, U_junk, U_cells, U_cellOk, ub_and, ub_or, ub_xor, ub_andNot, ub_add, ub_sub, ub_mul, ub_shl, ub_shr, ub_shl', ub_shr', ub_eql, ub_neq, ub_lss, ub_leq, ub_gtr, ub_geq, c1, c2]
    refine done_q hdom (Kept.refl hdom) ?_ ?_; · rfl
    rw [bad (by omega)]; rfl
  by_cases c3 : 65535 < v
  · simp (maxSteps := 1000000) (disch := first | assumption | omega | rfl | decide) [↓rules, rules, lit_u64, aEval_U, splice_nil, splice_zero, splice_step, gset_gset, Int.ofNat_inj, U_junk, U_cells, U_cellOk, ub_and, ub_or, ub_xor, ub_andNot, ub_add, ub_sub, ub_mul, ub_shl, ub_shr, ub_shl', ub_shr', ub_eql, ub_neq, ub_lss, ub_leq, ub_gtr, ub_geq, c1, c2, c3]
    refine done_q hdom (Kept.refl hdom) ?_ ?_; · rfl
    rw [bad (by omega)]; rfl
  simp (maxSteps := 1000000) (disch := first | assumption | omega | rfl | decide) [↓rules, rules, lit_u64, aEval_U, splice_nil, splice_zero, splice_step, gset_gset, Int.ofNat_inj, U_junk, U_cells, U_cellOk, ub_and, ub_or, ub_xor, ub_andNot, ub_add, ub_sub, ub_mul, ub_shl, ub_shr, ub_shl', ub_shr', ub_eql, ub_neq, ub_lss, ub_leq, ub_gtr, ub_geq, c1, c2, c3, conv_to_u64 tu3 tu23]
  refine rcall_quiet rfl (two 48 (by omega) _ _) ?_
  simp (maxSteps := 1000000) (disch := first | assumption | omega | rfl | decide) [↓rules, rules, lit_u64, aEval_U, splice_nil, splice_zero, splice_step, gset_gset, Int.ofNat_inj, U_junk, U_cells, U_cellOk, ub_and, ub_or, ub_xor, ub_andNot, ub_add, ub_sub, ub_mul, ub_shl, ub_shr, ub_shl', ub_shr', ub_eql, ub_neq, ub_lss, ub_leq, ub_gtr, ub_geq]
  refine done_q hdom (Kept.refl hdom) ?_ ?_; · rfl
  have hx : x < 281474976710656#64 := BitVec.not_le.1 c1
  have hx' : x.toNat < 2 ^ 48 := by rw [BitVec.lt_def] at hx; exact hx
  have e : x + BitVec.ofInt 64 v * P2 48 = x ||| BitVec.ofInt 64 v <<< 48 := by
    rw [mul_P2, add_or]
    apply BitVec.eq_of_getLsbD_eq
    intro i hi
    rw [BitVec.getLsbD_and, BitVec.getLsbD_shiftLeft, BitVec.getLsbD_zero]
    by_cases h : i < 48
    · simp [h]
    · simp [bit_high hx' (Nat.le_of_not_lt h)]
  rw [makeV, if_pos ⟨hx, by omega, by omega⟩, ← e]; rfl
theorem PutR (v vx : Value) (fs : List (Int × Int)) (xs : List (BitVec 64)) (g : AMem) (n : Nat) (hl : fs.length ≤ 1000) (hl' : xs.length ≤ 1000) (hfo : ∀ f ∈ fs, fOk f) (hv : rdF g v fs) (hx : rdW g vx xs) :
    FnC Try.prog 40 [v, vx] g n (fun _ => False) (.tuple #[U (putsF fs xs).1, .bool (putsF fs xs).2]) g n := by
  refine fnC_of_rwp t40 hm rfl fun hdom => ?_
  obtain ⟨a, e', hvf⟩ := hv.form
  obtain ⟨ax, ex, hvx⟩ := hx.form
  simp (maxSteps := 1000000) (disch := first | assumption | omega | rfl | decide) [↓rules, rules, lit_u64, aEval_U, splice_nil, splice_zero, splice_step, gset_gset, Int.ofNat_inj, U_junk, U_cells, U_cellOk, ub_and, ub_or, ub_xor, ub_andNot, ub_add, ub_sub, ub_mul, ub_shl, ub_shr, ub_shl', ub_shr', ub_eql, ub_neq, ub_lss, ub_leq, ub_gtr, ub_geq, rc40]
  refine rcall_quiet rfl (Fields v fs g n hl hfo hv) ?_
  cases c : goodF fs
  · simp (maxSteps := 1000000) (disch := first | assumption | omega | rfl | decide) [↓rules, rules, lit_u64, aEval_U, splice_nil, splice_zero, splice_step, gset_gset, Int.ofNat_inj, U_junk, U_cells, U_cellOk, ub_and, ub_or, ub_xor, ub_andNot, ub_add, ub_sub, ub_mul, ub_shl, ub_shr, ub_shl', ub_shr', ub_eql, ub_neq, ub_lss, ub_leq, ub_gtr, ub_geq]
    refine done_q hdom (Kept.refl hdom) ?_ ?_; · rfl
    rw [putsF, c]; simp; rfl
  by_cases hne : fs.length = xs.length
  case neg =>
    have hne' : ¬ xs.length = fs.length := fun h => hne h.symm
    simp (maxSteps := 1000000) (disch := first | assumption | omega | rfl | decide) [↓rules, rules, lit_u64, aEval_U, splice_nil, splice_zero, splice_step, gset_gset, Int.ofNat_inj, U_junk, U_cells, U_cellOk, ub_and, ub_or, ub_xor, ub_andNot, ub_add, ub_sub, ub_mul, ub_shl, ub_shr, ub_shl', ub_shr', ub_eql, ub_neq, ub_lss, ub_leq, ub_gtr, ub_geq, hvf, hvx, tu63, tu26, hne']
    refine done_q hdom (Kept.refl hdom) ?_ ?_; · rfl
    rw [putsF, if_neg (fun h => hne h.2)]; rfl
  simp (maxSteps := 1000000) (disch := first | assumption | omega | rfl | decide) [↓rules, rules, lit_u64, aEval_U, splice_nil, splice_zero, splice_step, gset_gset, Int.ofNat_inj, U_junk, U_cells, U_cellOk, ub_and, ub_or, ub_xor, ub_andNot, ub_add, ub_sub, ub_mul, ub_shl, ub_shr, ub_shl', ub_shr', ub_eql, ub_neq, ub_lss, ub_leq, ub_gtr, ub_geq, hvf, hvx, tu63, tu26, hne]
  rw [putsF, if_pos ⟨c, hne⟩]
  have hok := allF_good fs 0#64 c
  rw [show Value.slice a xs.length e' = v by rw [hvf, hne], ← hvx]
  refine rwp_loop (fun k l g' n' => ∃ i w, k = fs.length - i ∧ i ≤ fs.length ∧ g' = g ∧ n' = n ∧ putF (fs.drop i) (xs.drop i) w = putF fs xs 0#64 ∧ (∀ j (hj : j < fs.length), i ≤ j → w &&& M fs[j].1 fs[j].2 = 0#64) ∧ l = [(0, v), (1, vx), (6, U w), (7, .int .i64 i)]) ?_ (k := fs.length) ?_
  · rintro k l g' n' ⟨i, w, rfl, hi, rfl, rfl, hw, hap, rfl⟩
    simp (maxSteps := 1000000) (disch := first | assumption | omega | rfl | decide) [↓rules, rules, lit_u64, aEval_U, splice_nil, splice_zero, splice_step, gset_gset, Int.ofNat_inj, U_junk, U_cells, U_cellOk, ub_and, ub_or, ub_xor, ub_andNot, ub_add, ub_sub, ub_mul, ub_shl, ub_shr, ub_shl', ub_shr', ub_eql, ub_neq, ub_lss, ub_leq, ub_gtr, ub_geq, rc40l0, hvf, tu63]
    rw [← hvf]
    refine rcond_dec (fun hlt => ?_) (fun hlt => ?_)
    · have hltx : i < xs.length := by omega
      obtain ⟨b1, o1, h1, hb1, h2, h3⟩ := Rd.many (enc := encF) (e := 2) (fun _ => rfl) hv hlt
      obtain ⟨b2, o2, h4, hb2, h5⟩ := hx.one hltx
      have e1 := h3 g' (Ext.refl _) Try.prog 3 0 (.int .i64 fs[i].1) (by decide) rfl ta3
      have e2 := h3 g' (Ext.refl _) Try.prog 3 1 (.int .i64 fs[i].2) (by decide) rfl ta3
      rw [Nat.add_zero] at e1
      have e4 := h5 g' (Ext.refl _) Try.prog 23 ta23
      have hp := hok fs[i] (List.getElem_mem hlt)
      have e3 : IntKind.i64.wrap ((i : Int) + 1) = (i : Int) + 1 := wrap_i64 (by omega) (by omega)
      have hge := ge_P2 hp xs[i]
      have hdf : fs.drop i = fs[i] :: fs.drop (i + 1) := List.drop_eq_getElem_cons hlt
      have hdx : xs.drop i = xs[i] :: xs.drop (i + 1) := List.drop_eq_getElem_cons hltx
      rw [hdf, hdx, putF] at hw
      have c1 : (fs[i].1.toNat : Int) = fs[i].1 := by have := hp.1; omega
      have c2 : (fs[i].2.toNat : Int) = fs[i].2 := by have := hp.2.2.1; omega
      have next : okX fs[i] xs[i] → ∃ w', w' = w + xs[i] * P2 fs[i].1.toNat ∧ putF (fs.drop (i + 1)) (xs.drop (i + 1)) w' = putF fs xs 0#64 ∧ ∀ j (hj : j < fs.length), i + 1 ≤ j → w' &&& M fs[j].1 fs[j].2 = 0#64 := fun hox => by
        rw [if_neg hox] at hw
        have hin := in_mask hp hox
        have hwi := hap i hlt (Nat.le_refl _)
        have hz : w &&& xs[i] <<< fs[i].1.toNat = 0#64 := by
          rw [← hin, BitVec.and_comm (xs[i] <<< _), ← BitVec.and_assoc, hwi]; simp
        refine ⟨_, rfl, by rw [mul_P2, add_or _ _ hz]; exact hw, fun j hj hij => ?_⟩
        rw [mul_P2, add_or _ _ hz]
        have a1 := hap j hj (by omega)
        have a2 := apart fs _ c i j hlt hj (by omega)
        apply BitVec.eq_of_getLsbD_eq
        intro b hb
        have b1 := congrArg (fun y => BitVec.getLsbD y b) a1
        have b2 := congrArg (fun y => BitVec.getLsbD y b) a2
        have b3 := congrArg (fun y => BitVec.getLsbD y b) hin
        simp only [BitVec.getLsbD_and, BitVec.getLsbD_or, BitVec.getLsbD_zero] at b1 b2 b3 ⊢
        cases q1 : w.getLsbD b <;> cases q2 : (xs[i] <<< fs[i].1.toNat).getLsbD b <;> simp_all
      rw [h1, h4]
      by_cases c64 : fs[i].2 < 64
      · simp (maxSteps := 1000000) (disch := first | assumption | omega | rfl | decide) [↓rules, rules, lit_u64, aEval_U, splice_nil, splice_zero, splice_step, gset_gset, Int.ofNat_inj, U_junk, U_cells, U_cellOk, ub_and, ub_or, ub_xor, ub_andNot, ub_add, ub_sub, ub_mul, ub_shl, ub_shr, ub_shl', ub_shr', ub_eql, ub_neq, ub_lss, ub_leq, ub_gtr, ub_geq, tu63, ts73, hlt, tu73, aIndexAddrR_array _ ts3, e1, e2, c64, tu26, ts23, hltx, e4]
        rw [← c2]
        refine rcall_quiet rfl (two _ (by omega) _ _) ?_
        by_cases hox : okX fs[i] xs[i]
        · obtain ⟨w', hw', hw2, hap2⟩ := next hox
          have c5 : ¬ P2 fs[i].2.toNat ≤ xs[i] := fun h => (hge.1 ⟨c64, h⟩) hox
          simp (maxSteps := 1000000) (disch := first | assumption | omega | rfl | decide) [↓rules, rules, lit_u64, aEval_U, splice_nil, splice_zero, splice_step, gset_gset, Int.ofNat_inj, U_junk, U_cells, U_cellOk, ub_and, ub_or, ub_xor, ub_andNot, ub_add, ub_sub, ub_mul, ub_shl, ub_shr, ub_shl', ub_shr', ub_eql, ub_neq, ub_lss, ub_leq, ub_gtr, ub_geq, tu63, ts73, hlt, tu73, aIndexAddrR_array _ ts3, e1, e2, tu26, ts23, hltx, e4, c5]
          rw [← c1]
          refine rcall_quiet rfl (two _ (by omega) _ _) ?_
          simp (maxSteps := 1000000) (disch := first | assumption | omega | rfl | decide) [↓rules, rules, lit_u64, aEval_U, splice_nil, splice_zero, splice_step, gset_gset, Int.ofNat_inj, U_junk, U_cells, U_cellOk, ub_and, ub_or, ub_xor, ub_andNot, ub_add, ub_sub, ub_mul, ub_shl, ub_shr, ub_shl', ub_shr', ub_eql, ub_neq, ub_lss, ub_leq, ub_gtr, ub_geq, e3, ← hw']
          exact ⟨fs.length - (i + 1), by omega, i + 1, rfl, by omega, w', hw2, hap2, rfl, by simp⟩
        · have c5 : P2 fs[i].2.toNat ≤ xs[i] := (hge.2 hox).2
          simp (maxSteps := 1000000) (disch := first | assumption | omega | rfl | decide) [↓rules, rules, lit_u64, aEval_U, splice_nil, splice_zero, splice_step, gset_gset, Int.ofNat_inj, U_junk, U_cells, U_cellOk, ub_and, ub_or, ub_xor, ub_andNot, ub_add, ub_sub, ub_mul, ub_shl, ub_shr, ub_shl', ub_shr', ub_eql, ub_neq, ub_lss, ub_leq, ub_gtr, ub_geq, c5]
          refine done_q hdom (Kept.refl hdom) ?_ ?_; · rfl
          rw [if_pos (Classical.not_not.1 hox)] at hw; rw [← hw]; rfl
      · have hox : okX fs[i] xs[i] := Classical.byContradiction fun h => c64 (hge.2 h).1
        obtain ⟨w', hw', hw2, hap2⟩ := next hox
        simp (maxSteps := 1000000) (disch := first | assumption | omega | rfl | decide) [↓rules, rules, lit_u64, aEval_U, splice_nil, splice_zero, splice_step, gset_gset, Int.ofNat_inj, U_junk, U_cells, U_cellOk, ub_and, ub_or, ub_xor, ub_andNot, ub_add, ub_sub, ub_mul, ub_shl, ub_shr, ub_shl', ub_shr', ub_eql, ub_neq, ub_lss, ub_leq, ub_gtr, ub_geq, tu63, ts73, hlt, tu73, aIndexAddrR_array _ ts3, e1, e2, c64, tu26, ts23, hltx, e4]
        rw [← c1]
        refine rcall_quiet rfl (two _ (by omega) _ _) ?_
        simp (maxSteps := 1000000) (disch := first | assumption | omega | rfl | decide) [↓rules, rules, lit_u64, aEval_U, splice_nil, splice_zero, splice_step, gset_gset, Int.ofNat_inj, U_junk, U_cells, U_cellOk, ub_and, ub_or, ub_xor, ub_andNot, ub_add, ub_sub, ub_mul, ub_shl, ub_shr, ub_shl', ub_shr', ub_eql, ub_neq, ub_lss, ub_leq, ub_gtr, ub_geq, e3, ← hw']
        exact ⟨fs.length - (i + 1), by omega, i + 1, rfl, by omega, w', hw2, hap2, rfl, by simp⟩
    · have : i = fs.length := by omega
      refine done_q hdom (Kept.refl hdom) ?_ ?_; · rfl
      rw [this, List.drop_length, putF] at hw
      · rw [← hw]; rfl
      · simp
  · exact ⟨0, 0#64, by simp, by simp, rfl, rfl, by simp, by simp, by rfl⟩
end Go.Proofs.Ythigpfognkmegaa.F

namespace Go.Proofs.Ythigpfognkmegaa.F
open Go Go.Proofs Go.Proofs.YthigpfognkmegaaAbs
/-- The low k bits of those from p on. -/
def lowb (w : BitVec 64) (p k : Nat) : BitVec 64 := (w >>> p) &&& (P2 k - 1#64)
theorem lowb_bit (w : BitVec 64) (p k i : Nat) (hk : k ≤ 64) (hi : i < 64) : (lowb w p k).getLsbD i = (decide (i < k) && w.getLsbD (p + i)) := by
  unfold lowb P2
  rw [BitVec.getLsbD_and, ones_bit k i hk hi, BitVec.getLsbD_ushiftRight, Bool.and_comm]
theorem P2_bit (k i : Nat) (hk : k < 64) (hi : i < 64) : (P2 k).getLsbD i = decide (i = k) := by
  rw [BitVec.getLsbD, P2_toNat k hk, Nat.testBit_two_pow]
  rw [decide_eq_decide]; exact eq_comm
theorem lowb_zero (w : BitVec 64) (p : Nat) : lowb w p 0 = 0#64 := by
  apply BitVec.eq_of_getLsbD_eq
  intro i hi
  rw [lowb_bit w p 0 i (by omega) hi]; simp
theorem lowb_on (w : BitVec 64) (p k : Nat) (hk : k < 64) (h : w.getLsbD (p + k) = true) : lowb w p k + P2 k = lowb w p (k + 1) := by
  rw [add_or]
  · apply BitVec.eq_of_getLsbD_eq
    intro i hi
    rw [BitVec.getLsbD_or, lowb_bit w p k i (by omega) hi, lowb_bit w p (k + 1) i (by omega) hi, P2_bit k i hk hi]
    by_cases e : i = k
    · subst e; simp [h]
    · have : decide (i < k + 1) = decide (i < k) := by rw [decide_eq_decide]; omega
      rw [this]; simp [e]
  · apply BitVec.eq_of_getLsbD_eq
    intro i hi
    rw [BitVec.getLsbD_and, lowb_bit w p k i (by omega) hi, P2_bit k i hk hi, BitVec.getLsbD_zero]
    by_cases e : i = k
    · subst e; simp
    · simp [e]
theorem lowb_off (w : BitVec 64) (p k : Nat) (hk : k < 64) (h : w.getLsbD (p + k) = false) : lowb w p k = lowb w p (k + 1) := by
  apply BitVec.eq_of_getLsbD_eq
  intro i hi
  rw [lowb_bit w p k i (by omega) hi, lowb_bit w p (k + 1) i (by omega) hi]
  by_cases e : i = k
  · subst e; simp [h]
  · have : decide (i < k + 1) = decide (i < k) := by rw [decide_eq_decide]; omega
    rw [this]
theorem lowb_get (w : BitVec 64) (f : Int × Int) (h : okS f) : lowb w f.1.toNat f.2.toNat = getF w f := by
  obtain ⟨h1, h2, h3, h4⟩ := h
  apply BitVec.eq_of_getLsbD_eq
  intro i hi
  rw [lowb_bit w _ _ i (by omega) hi, getF, BitVec.getLsbD_ushiftRight, BitVec.getLsbD_and]
  by_cases c : f.1.toNat + i < 64
  · rw [M_bit f.1 f.2 h1 (by omega) (by omega) _ c]; simp [Bool.and_comm]
  · rw [BitVec.getLsbD_of_ge w _ (by omega)]; simp
/-- A word without k bits from p on. -/
def cutb (w : BitVec 64) (p k : Nat) : BitVec 64 := w &&& ~~~ M p k
theorem cutb_bit (w : BitVec 64) (p k i : Nat) (h : p + k ≤ 64) (hi : i < 64) : (cutb w p k).getLsbD i = (w.getLsbD i && !(decide (p ≤ i) && decide (i < p + k))) := by
  rw [cutb, BitVec.getLsbD_and, BitVec.getLsbD_not, M_bit (p : Int) (k : Int) (by omega) (by omega) (by omega) i hi]
  simp [hi]
theorem cutb_zero (w : BitVec 64) (p : Nat) (hp : p ≤ 64) : cutb w p 0 = w := by
  apply BitVec.eq_of_getLsbD_eq
  intro i hi
  rw [cutb_bit w p 0 i (by omega) hi]
  by_cases e : p ≤ i
  · simp [e, show ¬ i < p by omega]
  · simp [e]
theorem sub_bit (x : BitVec 64) (k : Nat) (hk : k < 64) (h : x.getLsbD k = true) : x - P2 k = x &&& ~~~ P2 k := by
  have e : x = (x &&& ~~~ P2 k) + P2 k := by
    rw [add_or]
    · apply BitVec.eq_of_getLsbD_eq
      intro i hi
      rw [BitVec.getLsbD_or, BitVec.getLsbD_and, BitVec.getLsbD_not, P2_bit k i hk hi]
      by_cases e : i = k
      · subst e; simp [h, hi]
      · simp [e, hi]
    · apply BitVec.eq_of_getLsbD_eq
      intro i hi
      rw [BitVec.getLsbD_and, BitVec.getLsbD_and, BitVec.getLsbD_not, P2_bit k i hk hi, BitVec.getLsbD_zero]
      by_cases e : i = k <;> simp [e]
  conv => lhs; rw [e]
  rw [BitVec.add_sub_cancel]
theorem cutb_on (w : BitVec 64) (p k : Nat) (h : p + k < 64) (hb : (cutb w p k).getLsbD (p + k) = true) : cutb w p k - P2 (p + k) = cutb w p (k + 1) := by
  rw [sub_bit _ _ h hb]
  apply BitVec.eq_of_getLsbD_eq
  intro i hi
  rw [BitVec.getLsbD_and, BitVec.getLsbD_not, P2_bit _ i h hi, cutb_bit w p k i (by omega) hi, cutb_bit w p (k + 1) i (by omega) hi]
  by_cases e : i = p + k
  · subst e; simp [hi]
  · have : decide (i < p + (k + 1)) = decide (i < p + k) := by rw [decide_eq_decide]; omega
    rw [this]; simp [e, hi]
theorem cutb_off (w : BitVec 64) (p k : Nat) (h : p + k < 64) (hb : (cutb w p k).getLsbD (p + k) = false) : cutb w p k = cutb w p (k + 1) := by
  apply BitVec.eq_of_getLsbD_eq
  intro i hi
  rw [cutb_bit w p k i (by omega) hi, cutb_bit w p (k + 1) i (by omega) hi]
  by_cases e : i = p + k
  · subst e
    rw [cutb_bit w p k (p + k) (by omega) hi] at hb
    simp at hb
    simp [hb]
  · have : decide (i < p + (k + 1)) = decide (i < p + k) := by rw [decide_eq_decide]; omega
    rw [this]
end Go.Proofs.Ythigpfognkmegaa.F

namespace Go.Proofs.Ythigpfognkmegaa.F
open Go Go.Proofs Go.Proofs.YthigpfognkmegaaAbs
theorem GetR (w : BitVec 64) (v : Value) (fs : List (Int × Int)) (g : AMem) (n : Nat) (hdom : ∀ i, g i ≠ none → i < n) (hl : fs.length ≤ 1000) (hfo : ∀ f ∈ fs, fOk f) (hv : rdF g v fs) :
    FnS Try.prog 43 [U w, v] g n (fun _ => False) fun r g' n' => rdW g' r (getsF w fs) ∧ Kept g n g' n' := by
  refine fnS_of_rwp t43 hm rfl hdom ?_
  obtain ⟨a, e', hvf⟩ := hv.form
  simp (maxSteps := 1000000) (disch := first | assumption | omega | rfl | decide) [↓rules, rules, lit_u64, aEval_U, splice_nil, splice_zero, splice_step, gset_gset, Int.ofNat_inj, U_junk, U_cells, U_cellOk, ub_and, ub_or, ub_xor, ub_andNot, ub_add, ub_sub, ub_mul, ub_shl, ub_shr, ub_shl', ub_shr', ub_eql, ub_neq, ub_lss, ub_leq, ub_gtr, ub_geq, rc43]
  refine rwp_loop (fun k l g' n' => ∃ i s, k = fs.length - i ∧ i ≤ fs.length ∧ Kept g n g' n' ∧ (goodF fs = false → i = 0) ∧ (i = 0 ∧ s = .slice none 0 0 ∨ 0 < i ∧ ∃ b, n ≤ b ∧ s = .slice (some ⟨b, 0, none⟩) i 1 ∧ g' b = some (.row ((fs.map fun f => U (getF w f)).take i) true)) ∧ l = [(0, U w), (1, v), (5, s), (6, .int .i64 i)]) ?_ (k := fs.length) ?_
  · rintro k l g' n' ⟨i, s, rfl, hi, hk, hgood, hs, rfl⟩
    have hv' := hv.ext (hk.ext hdom)
    have fin : ¬ (i < fs.length ∧ goodF fs = true) → rdW g' s (getsF w fs) := fun h => by
      rcases hs with ⟨hi0, rfl⟩ | ⟨hi0, b, hb, rfl, hgb⟩
      · have : getsF w fs = [] := by
          rw [getsF]; split
          · rename_i hc
            have : fs = [] := List.length_eq_zero_iff.1 (by
              apply Classical.byContradiction; intro h2; exact h ⟨by omega, hc⟩)
            subst this; rfl
          · rfl
        rw [this]; exact Rd.nil
      · have hc : goodF fs = true := by
          cases hc : goodF fs
          · have := hgood hc; omega
          · rfl
        have hi' : i = fs.length := by
          apply Classical.byContradiction; intro h2; exact h ⟨by omega, hc⟩
        subst hi'
        rw [getsF, if_pos hc]
        refine Rd.of_row (enc := fun w => [U w]) (fun _ => rfl) hgb ?_ ?_ ?_
        · simp
        · simp [flatMap_one, List.take_of_length_le, Function.comp_def]
        · simp
    by_cases hlt : i < fs.length
    case neg =>
      simp (maxSteps := 1000000) (disch := first | assumption | omega | rfl | decide) [↓rules, rules, lit_u64, aEval_U, splice_nil, splice_zero, splice_step, gset_gset, Int.ofNat_inj, U_junk, U_cells, U_cellOk, ub_and, ub_or, ub_xor, ub_andNot, ub_add, ub_sub, ub_mul, ub_shl, ub_shr, ub_shl', ub_shr', ub_eql, ub_neq, ub_lss, ub_leq, ub_gtr, ub_geq, rc43l1, hvf, tu63, hlt]
      exact sdone_ret rfl ⟨fin (fun h => hlt h.1), hk⟩
    simp (maxSteps := 1000000) (disch := first | assumption | omega | rfl | decide) [↓rules, rules, lit_u64, aEval_U, splice_nil, splice_zero, splice_step, gset_gset, Int.ofNat_inj, U_junk, U_cells, U_cellOk, ub_and, ub_or, ub_xor, ub_andNot, ub_add, ub_sub, ub_mul, ub_shl, ub_shr, ub_shl', ub_shr', ub_eql, ub_neq, ub_lss, ub_leq, ub_gtr, ub_geq, rc43l1, hvf, tu63, hlt]
    rw [← hvf]
    refine rcall_quiet rfl (Fields v fs g' n' hl hfo hv') ?_
    cases c : goodF fs
    · simp (maxSteps := 1000000) (disch := first | assumption | omega | rfl | decide) [↓rules, rules, lit_u64, aEval_U, splice_nil, splice_zero, splice_step, gset_gset, Int.ofNat_inj, U_junk, U_cells, U_cellOk, ub_and, ub_or, ub_xor, ub_andNot, ub_add, ub_sub, ub_mul, ub_shl, ub_shr, ub_shl', ub_shr', ub_eql, ub_neq, ub_lss, ub_leq, ub_gtr, ub_geq]
      exact sdone_ret rfl ⟨fin (fun h => by rw [c] at h; cases h.2), hk⟩
    have hok := allF_good fs 0#64 c
    have hp := hok fs[i] (List.getElem_mem hlt)
    have hpf := hp
    obtain ⟨b1, o1, h1, hb1, h2, h3⟩ := Rd.many (enc := encF) (e := 2) (fun _ => rfl) hv hlt
    have e1 := h3 g' (hk.ext hdom) Try.prog 3 0 (.int .i64 fs[i].1) (by decide) rfl ta3
    have e2 := h3 g' (hk.ext hdom) Try.prog 3 1 (.int .i64 fs[i].2) (by decide) rfl ta3
    rw [Nat.add_zero] at e1
    have e3 : IntKind.i64.wrap ((i : Int) + 1) = (i : Int) + 1 := wrap_i64 (by omega) (by omega)
    obtain ⟨p, hpn⟩ : ∃ k : Nat, fs[i].1 = k := ⟨fs[i].1.toNat, by omega⟩
    obtain ⟨q, hqn⟩ : ∃ k : Nat, fs[i].2 = k := ⟨fs[i].2.toNat, by omega⟩
    rw [hpn] at e1 hp; rw [hqn] at e2 hp
    have hget : lowb w p q = getF w fs[i] := by have := lowb_get w fs[i] hpf; rwa [hpn, hqn] at this
    simp (maxSteps := 1000000) (disch := first | assumption | omega | rfl | decide) [↓rules, rules, lit_u64, aEval_U, splice_nil, splice_zero, splice_step, gset_gset, Int.ofNat_inj, U_junk, U_cells, U_cellOk, ub_and, ub_or, ub_xor, ub_andNot, ub_add, ub_sub, ub_mul, ub_shl, ub_shr, ub_shl', ub_shr', ub_eql, ub_neq, ub_lss, ub_leq, ub_gtr, ub_geq]
    refine rwp_loop (fun k l g2 n2 => ∃ j, k = q - j ∧ j ≤ q ∧ g2 = g' ∧ n2 = n' ∧ l = [(0, U w), (1, v), (5, s), (6, .int .i64 i), (7, U (lowb w p j)), (8, .int .i64 j)]) ?_ (k := q) ?_
    · rintro k l g2 n2 ⟨j, rfl, hj, rfl, rfl, rfl⟩
      simp (maxSteps := 1000000) (disch := first | assumption | omega | rfl | decide) [↓rules, rules, lit_u64, aEval_U, splice_nil, splice_zero, splice_step, gset_gset, Int.ofNat_inj, U_junk, U_cells, U_cellOk, ub_and, ub_or, ub_xor, ub_andNot, ub_add, ub_sub, ub_mul, ub_shl, ub_shr, ub_shl', ub_shr', ub_eql, ub_neq, ub_lss, ub_leq, ub_gtr, ub_geq, rc43l0, h1, tu63, ts73, hlt, tu73, aIndexAddrR_array _ ts3, e1, e2]
      refine rcond_dec (fun hjq => ?_) (fun hjq => ?_)
      · have e5 : IntKind.i64.wrap ((p : Int) + j) = ((p + j : Nat) : Int) := by rw [wrap_i64 (by omega) (by omega)]; omega
        have e9 : IntKind.i64.wrap ((j : Int) + 1) = (j : Int) + 1 := wrap_i64 (by omega) (by omega)
        simp (maxSteps := 1000000) (disch := first | assumption | omega | rfl | decide) [↓rules, rules, lit_u64, aEval_U, splice_nil, splice_zero, splice_step, gset_gset, Int.ofNat_inj, U_junk, U_cells, U_cellOk, ub_and, ub_or, ub_xor, ub_andNot, ub_add, ub_sub, ub_mul, ub_shl, ub_shr, ub_shl', ub_shr', ub_eql, ub_neq, ub_lss, ub_leq, ub_gtr, ub_geq, tu63, ts73, hlt, tu73, aIndexAddrR_array _ ts3, e1, e2, e5]
        refine rcall_quiet rfl (Bit w (p + j) (by omega) _ _) ?_
        cases hbit : w.getLsbD (p + j)
        · have := lowb_off w p j (by omega) hbit
          simp (maxSteps := 1000000) (disch := first | assumption | omega | rfl | decide) [↓rules, rules, lit_u64, aEval_U, splice_nil, splice_zero, splice_step, gset_gset, Int.ofNat_inj, U_junk, U_cells, U_cellOk, ub_and, ub_or, ub_xor, ub_andNot, ub_add, ub_sub, ub_mul, ub_shl, ub_shr, ub_shl', ub_shr', ub_eql, ub_neq, ub_lss, ub_leq, ub_gtr, ub_geq, e9]
          exact ⟨q - (j + 1), by omega, j + 1, rfl, by omega, by rw [← this], by simp⟩
        · have := lowb_on w p j (by omega) hbit
          simp (maxSteps := 1000000) (disch := first | assumption | omega | rfl | decide) [↓rules, rules, lit_u64, aEval_U, splice_nil, splice_zero, splice_step, gset_gset, Int.ofNat_inj, U_junk, U_cells, U_cellOk, ub_and, ub_or, ub_xor, ub_andNot, ub_add, ub_sub, ub_mul, ub_shl, ub_shr, ub_shl', ub_shr', ub_eql, ub_neq, ub_lss, ub_leq, ub_gtr, ub_geq]
          refine rcall_quiet rfl (two j (by omega) _ _) ?_
          simp (maxSteps := 1000000) (disch := first | assumption | omega | rfl | decide) [↓rules, rules, lit_u64, aEval_U, splice_nil, splice_zero, splice_step, gset_gset, Int.ofNat_inj, U_junk, U_cells, U_cellOk, ub_and, ub_or, ub_xor, ub_andNot, ub_add, ub_sub, ub_mul, ub_shl, ub_shr, ub_shl', ub_shr', ub_eql, ub_neq, ub_lss, ub_leq, ub_gtr, ub_geq, this, e9]
          exact ⟨q - (j + 1), by omega, j + 1, rfl, by omega, rfl, by simp⟩
      · have : j = q := by omega
        subst this
        rw [hget]
        have hn := hk.le
        have htk : (fs.map fun f => U (getF w f)).take (i + 1) = (fs.map fun f => U (getF w f)).take i ++ [U (getF w fs[i])] := by
          rw [List.take_add_one, List.getElem?_eq_getElem (by simpa using hlt)]; simp
        rcases hs with ⟨hi0, rfl⟩ | ⟨hi0, b, hb, rfl, hgb⟩
        · simp (maxSteps := 1000000) (disch := first | assumption | omega | rfl | decide) [↓rules, rules, lit_u64, aEval_U, splice_nil, splice_zero, splice_step, gset_gset, Int.ofNat_inj, U_junk, U_cells, U_cellOk, ub_and, ub_or, ub_xor, ub_andNot, ub_add, ub_sub, ub_mul, ub_shl, ub_shr, ub_shl', ub_shr', ub_eql, ub_neq, ub_lss, ub_leq, ub_gtr, ub_geq, fillS_nil, fillS_cons, fillP_nil, fillP_cons, fillO_some, nthP_cons, zeroRow_one, aRead_at, aRead_nil, readR_row, appR_nil, appR_row, appR1_row, appR_zero, grow_row, do_buildL tu26 tz23 ts23 rfl, aAppend1 tu26 ts23 tb23 tv23 rfl, e3]
          refine ⟨fs.length - (i + 1), by omega, i + 1, rfl, by omega, (hk.new _).new _, .slice (some ⟨n2 + 1, 0, none⟩) 1 1, .inr ⟨by omega, n2 + 1, by omega, by rw [hi0], ?_⟩, rfl, by simp⟩
          rw [if_pos rfl, htk, show ∀ l : List Value, List.take i l = [] from fun l => by rw [hi0]; rfl]; rfl
        · have hbn : b ≠ n2 := by have := hk.lt hgb; omega
          have z1 : (i + 1) * 8 ≤ 70368744177664 := by omega
          have z2 : i ≤ 70368744177663 := by omega
          have hmin : min i fs.length = i := by omega
          simp (maxSteps := 1000000) (disch := first | assumption | omega | rfl | decide) [↓rules, rules, lit_u64, aEval_U, splice_nil, splice_zero, splice_step, gset_gset, Int.ofNat_inj, U_junk, U_cells, U_cellOk, ub_and, ub_or, ub_xor, ub_andNot, ub_add, ub_sub, ub_mul, ub_shl, ub_shr, ub_shl', ub_shr', ub_eql, ub_neq, ub_lss, ub_leq, ub_gtr, ub_geq, fillS_nil, fillS_cons, fillP_nil, fillP_cons, fillO_some, nthP_cons, zeroRow_one, aRead_at, aRead_nil, readR_row, appR_nil, appR_row, appR1_row, appR_zero, grow_row, do_buildL tu26 tz23 ts23 rfl, aAppend1 tu26 ts23 tb23 tv23 rfl, e3, hbn, z1, z2, hgb, hmin]
          refine ⟨hb, fs.length - (i + 1), by omega, i + 1, rfl, by omega, ((hk.new _).drop hb).new _, .slice (some ⟨n2 + 1, 0, none⟩) (i + 1) 1, .inr ⟨by omega, n2 + 1, by omega, rfl, ?_⟩, rfl, by simp⟩
          rw [if_pos rfl, htk]
    · exact ⟨0, by omega, by omega, rfl, rfl, by rw [lowb_zero]; rfl⟩
  · exact ⟨0, _, by omega, by omega, Kept.refl hdom, fun _ => rfl, .inl ⟨rfl, rfl⟩, rfl⟩
end Go.Proofs.Ythigpfognkmegaa.F

namespace Go.Proofs.Ythigpfognkmegaa.F
open Go Go.Proofs Go.Proofs.YthigpfognkmegaaAbs
theorem orF_snoc : ∀ (fs : List (Int × Int)) (f : Int × Int), orF (fs ++ [f]) = orF fs ||| M f.1 f.2
  | [], f => by simp [orF]
  | x :: fs, f => by rw [List.cons_append, orF, orF_snoc fs f, orF, BitVec.or_assoc]
theorem allF_bad : ∀ (fs : List (Int × Int)) (w : BitVec 64), (allF fs w).2 = false → (allF fs w).1 = 0#64
  | [], w, h => by cases h
  | f :: fs, w, h => by
    rw [allF] at h ⊢
    split
    · rename_i ho; rw [if_pos ho] at h; exact allF_bad fs _ h
    · rfl
theorem cut_next (w o m : BitVec 64) : w &&& ~~~ o &&& ~~~ m = w &&& ~~~ (o ||| m) := by
  apply BitVec.eq_of_getLsbD_eq
  intro i hi
  simp only [BitVec.getLsbD_and, BitVec.getLsbD_not, BitVec.getLsbD_or, hi, decide_true, Bool.true_and]
  cases w.getLsbD i <;> cases o.getLsbD i <;> cases m.getLsbD i <;> rfl
theorem and_full (w : BitVec 64) : w &&& ~~~ 0#64 = w := by
  apply BitVec.eq_of_getLsbD_eq
  intro i hi
  rw [BitVec.getLsbD_and, BitVec.getLsbD_not, BitVec.getLsbD_zero]
  simp only [hi, decide_true, Bool.not_false, Bool.and_true]
theorem RestR (w : BitVec 64) (v : Value) (fs : List (Int × Int)) (g : AMem) (n : Nat) (hl : fs.length ≤ 1000) (hfo : ∀ f ∈ fs, fOk f) (hv : rdF g v fs) :
    FnC Try.prog 44 [U w, v] g n (fun _ => False) (U (w &&& ~~~ (allF fs 0#64).1)) g n := by
  refine fnC_of_rwp t44 hm rfl fun hdom => ?_
  obtain ⟨a, e', hvf⟩ := hv.form
  simp (maxSteps := 1000000) (disch := first | assumption | omega | rfl | decide) [↓rules, rules, lit_u64, aEval_U, splice_nil, splice_zero, splice_step, gset_gset, Int.ofNat_inj, U_junk, U_cells, U_cellOk, ub_and, ub_or, ub_xor, ub_andNot, ub_add, ub_sub, ub_mul, ub_shl, ub_shr, ub_shl', ub_shr', ub_eql, ub_neq, ub_lss, ub_leq, ub_gtr, ub_geq, rc44]
  refine rwp_loop (fun k l g' n' => ∃ i, k = fs.length - i ∧ i ≤ fs.length ∧ g' = g ∧ n' = n ∧ (goodF fs = false → i = 0) ∧ l = [(0, U (w &&& ~~~ orF (fs.take i))), (1, v), (5, .int .i64 i)]) ?_ (k := fs.length) ?_
  · rintro k l g' n' ⟨i, rfl, hi, rfl, rfl, hgood, rfl⟩
    have fin : ¬ (i < fs.length ∧ goodF fs = true) → w &&& ~~~ orF (fs.take i) = w &&& ~~~ (allF fs 0#64).1 := fun h => by
      cases hc : goodF fs
      · rw [hgood hc, allF_bad fs _ hc]; rfl
      · have hi' : i = fs.length := by
          apply Classical.byContradiction; intro h2; exact h ⟨by omega, hc⟩
        rw [hi', List.take_length, show (allF fs 0#64).1 = orF fs from A_eq hc]
    by_cases hlt : i < fs.length
    case neg =>
      simp (maxSteps := 1000000) (disch := first | assumption | omega | rfl | decide) [↓rules, rules, lit_u64, aEval_U, splice_nil, splice_zero, splice_step, gset_gset, Int.ofNat_inj, U_junk, U_cells, U_cellOk, ub_and, ub_or, ub_xor, ub_andNot, ub_add, ub_sub, ub_mul, ub_shl, ub_shr, ub_shl', ub_shr', ub_eql, ub_neq, ub_lss, ub_leq, ub_gtr, ub_geq, rc44l1, hvf, tu63, hlt]
      refine done_q hdom (Kept.refl hdom) ?_ ?_; · rfl
      rw [← fin (fun h => hlt h.1)]; rfl
    simp (maxSteps := 1000000) (disch := first | assumption | omega | rfl | decide) [↓rules, rules, lit_u64, aEval_U, splice_nil, splice_zero, splice_step, gset_gset, Int.ofNat_inj, U_junk, U_cells, U_cellOk, ub_and, ub_or, ub_xor, ub_andNot, ub_add, ub_sub, ub_mul, ub_shl, ub_shr, ub_shl', ub_shr', ub_eql, ub_neq, ub_lss, ub_leq, ub_gtr, ub_geq, rc44l1, hvf, tu63, hlt]
    rw [← hvf]
    refine rcall_quiet rfl (Fields v fs g' n' hl hfo hv) ?_
    cases c : goodF fs
    · simp (maxSteps := 1000000) (disch := first | assumption | omega | rfl | decide) [↓rules, rules, lit_u64, aEval_U, splice_nil, splice_zero, splice_step, gset_gset, Int.ofNat_inj, U_junk, U_cells, U_cellOk, ub_and, ub_or, ub_xor, ub_andNot, ub_add, ub_sub, ub_mul, ub_shl, ub_shr, ub_shl', ub_shr', ub_eql, ub_neq, ub_lss, ub_leq, ub_gtr, ub_geq]
      refine done_q hdom (Kept.refl hdom) ?_ ?_; · rfl
      rw [← fin (fun h => by rw [c] at h; cases h.2)]; rfl
    have hok := allF_good fs 0#64 c
    have hp := hok fs[i] (List.getElem_mem hlt)
    obtain ⟨b1, o1, h1, hb1, h2, h3⟩ := Rd.many (enc := encF) (e := 2) (fun _ => rfl) hv hlt
    have e1 := h3 g' (Ext.refl _) Try.prog 3 0 (.int .i64 fs[i].1) (by decide) rfl ta3
    have e2 := h3 g' (Ext.refl _) Try.prog 3 1 (.int .i64 fs[i].2) (by decide) rfl ta3
    rw [Nat.add_zero] at e1
    have e3 : IntKind.i64.wrap ((i : Int) + 1) = (i : Int) + 1 := wrap_i64 (by omega) (by omega)
    have hnext : w &&& ~~~ orF (fs.take i) &&& ~~~ M fs[i].1 fs[i].2 = w &&& ~~~ orF (fs.take (i + 1)) := by
      rw [cut_next, ← orF_snoc, List.take_add_one, List.getElem?_eq_getElem hlt]; rfl
    obtain ⟨p, hpn⟩ : ∃ k : Nat, fs[i].1 = k := ⟨fs[i].1.toNat, by omega⟩
    obtain ⟨q, hqn⟩ : ∃ k : Nat, fs[i].2 = k := ⟨fs[i].2.toNat, by omega⟩
    rw [hpn] at e1 hp hnext; rw [hqn] at e2 hp hnext
    generalize w &&& ~~~ orF (fs.take i) = x at hnext
    simp (maxSteps := 1000000) (disch := first | assumption | omega | rfl | decide) [↓rules, rules, lit_u64, aEval_U, splice_nil, splice_zero, splice_step, gset_gset, Int.ofNat_inj, U_junk, U_cells, U_cellOk, ub_and, ub_or, ub_xor, ub_andNot, ub_add, ub_sub, ub_mul, ub_shl, ub_shr, ub_shl', ub_shr', ub_eql, ub_neq, ub_lss, ub_leq, ub_gtr, ub_geq]
    refine rwp_loop (fun k l g2 n2 => ∃ j, k = q - j ∧ j ≤ q ∧ g2 = g' ∧ n2 = n' ∧ l = [(0, U (cutb x p j)), (1, v), (5, .int .i64 i), (6, .int .i64 j)]) ?_ (k := q) ?_
    · rintro k l g2 n2 ⟨j, rfl, hj, rfl, rfl, rfl⟩
      simp (maxSteps := 1000000) (disch := first | assumption | omega | rfl | decide) [↓rules, rules, lit_u64, aEval_U, splice_nil, splice_zero, splice_step, gset_gset, Int.ofNat_inj, U_junk, U_cells, U_cellOk, ub_and, ub_or, ub_xor, ub_andNot, ub_add, ub_sub, ub_mul, ub_shl, ub_shr, ub_shl', ub_shr', ub_eql, ub_neq, ub_lss, ub_leq, ub_gtr, ub_geq, rc44l0, h1, tu63, ts73, hlt, tu73, aIndexAddrR_array _ ts3, e1, e2]
      refine rcond_dec (fun hjq => ?_) (fun hjq => ?_)
      · have e5 : IntKind.i64.wrap ((p : Int) + j) = ((p + j : Nat) : Int) := by rw [wrap_i64 (by omega) (by omega)]; omega
        have e9 : IntKind.i64.wrap ((j : Int) + 1) = (j : Int) + 1 := wrap_i64 (by omega) (by omega)
        simp (maxSteps := 1000000) (disch := first | assumption | omega | rfl | decide) [↓rules, rules, lit_u64, aEval_U, splice_nil, splice_zero, splice_step, gset_gset, Int.ofNat_inj, U_junk, U_cells, U_cellOk, ub_and, ub_or, ub_xor, ub_andNot, ub_add, ub_sub, ub_mul, ub_shl, ub_shr, ub_shl', ub_shr', ub_eql, ub_neq, ub_lss, ub_leq, ub_gtr, ub_geq, tu63, ts73, hlt, tu73, aIndexAddrR_array _ ts3, e1, e2, e5]
        refine rcall_quiet rfl (Bit (cutb x p j) (p + j) (by omega) _ _) ?_
        cases hbit : (cutb x p j).getLsbD (p + j)
        · have := cutb_off x p j (by omega) hbit
          simp (maxSteps := 1000000) (disch := first | assumption | omega | rfl | decide) [↓rules, rules, lit_u64, aEval_U, splice_nil, splice_zero, splice_step, gset_gset, Int.ofNat_inj, U_junk, U_cells, U_cellOk, ub_and, ub_or, ub_xor, ub_andNot, ub_add, ub_sub, ub_mul, ub_shl, ub_shr, ub_shl', ub_shr', ub_eql, ub_neq, ub_lss, ub_leq, ub_gtr, ub_geq, e9]
          exact ⟨q - (j + 1), by omega, j + 1, rfl, by omega, by rw [← this], by simp⟩
        · have := cutb_on x p j (by omega) hbit
          simp (maxSteps := 1000000) (disch := first | assumption | omega | rfl | decide) [↓rules, rules, lit_u64, aEval_U, splice_nil, splice_zero, splice_step, gset_gset, Int.ofNat_inj, U_junk, U_cells, U_cellOk, ub_and, ub_or, ub_xor, ub_andNot, ub_add, ub_sub, ub_mul, ub_shl, ub_shr, ub_shl', ub_shr', ub_eql, ub_neq, ub_lss, ub_leq, ub_gtr, ub_geq, tu63, ts73, hlt, tu73, aIndexAddrR_array _ ts3, e1, e2, e5]
          refine rcall_quiet rfl (two (p + j) (by omega) _ _) ?_
          simp (maxSteps := 1000000) (disch := first | assumption | omega | rfl | decide) [↓rules, rules, lit_u64, aEval_U, splice_nil, splice_zero, splice_step, gset_gset, Int.ofNat_inj, U_junk, U_cells, U_cellOk, ub_and, ub_or, ub_xor, ub_andNot, ub_add, ub_sub, ub_mul, ub_shl, ub_shr, ub_shl', ub_shr', ub_eql, ub_neq, ub_lss, ub_leq, ub_gtr, ub_geq, this, e9]
          exact ⟨q - (j + 1), by omega, j + 1, rfl, by omega, rfl, by simp⟩
      · have : j = q := by omega
        subst this
        have hc : cutb x p j = w &&& ~~~ orF (fs.take (i + 1)) := by rw [cutb, hnext]
        refine ⟨fs.length - (i + 1), by omega, i + 1, rfl, by omega, ?_⟩
        rw [hc, e3]
        exact ⟨rfl, by simp⟩
    · exact ⟨0, by omega, by omega, rfl, rfl, by rw [cutb_zero x p (by omega)]; rfl⟩
  · exact ⟨0, by omega, by omega, rfl, rfl, fun _ => rfl, by rw [List.take_zero, orF, and_full]; rfl⟩
end Go.Proofs.Ythigpfognkmegaa.F

namespace Go.Proofs.Ythigpfognkmegaa.F
open Go Go.Proofs Go.Proofs.YthigpfognkmegaaAbs
theorem mod48 (w : BitVec 64) : w % 281474976710656#64 = w &&& 281474976710655#64 := by
  apply BitVec.eq_of_toNat_eq
  rw [BitVec.toNat_umod, BitVec.toNat_and]
  rw [show (281474976710656#64).toNat = 2 ^ 48 by decide, show (281474976710655#64).toNat = 2 ^ 48 - 1 by decide, Nat.and_two_pow_sub_one_eq_mod]
theorem div48 (w : BitVec 64) : w / 281474976710656#64 = w >>> 48 := by
  apply BitVec.eq_of_toNat_eq
  rw [BitVec.toNat_udiv, BitVec.toNat_ushiftRight, Nat.shiftRight_eq_div_pow]; rfl
theorem bin_eqU {P : Program} {t : TypeId} {xo yo : Operand} {x : BitVec 64} : aBin P .eql t xo yo (U x) (U x) = some (.bool true) := by rw [ub_eql]; simp
theorem TagSays (v : Value) (fs : List (Int × Int)) (vx : Value) (xs : List (BitVec 64)) (w x : BitVec 64) (ve : Int) (g : AMem) (n : Nat) (hdom : ∀ i, g i ≠ none → i < n) (hfo : ∀ f ∈ fs, fOk f) (hv : rdF g v fs) (_ : ∀ x ∈ xs, True) (hx : rdW g vx xs) (_ : -9223372036854775808 ≤ ve) (_ : ve ≤ 9223372036854775807) :
    FnC Try.prog 10 [v, vx, U w, U x, .int .i64 ve] g n (fun _ => False) (.bool true) g n := by
  refine fnC_of_rwp t10 hm rfl fun hdom => ?_
  obtain ⟨a, e', hvf⟩ := hv.form
  obtain ⟨ax, ex, hvx⟩ := hx.form
  simp (maxSteps := 1000000) (disch := first | assumption | omega | rfl | decide) [↓rules, rules, lit_u64, aEval_U, splice_nil, splice_zero, splice_step, gset_gset, Int.ofNat_inj, U_junk, U_cells, U_cellOk, ub_and, ub_or, ub_xor, ub_andNot, ub_add, ub_sub, ub_mul, ub_shl, ub_shr, ub_shl', ub_shr', ub_eql, ub_neq, ub_lss, ub_leq, ub_gtr, ub_geq, rc10]
  refine rcall_quiet rfl (awake g n) ?_
  by_cases c1 : (70 : Int) < fs.length
  · simp (maxSteps := 1000000) (disch := first | assumption | omega | rfl | decide) [↓rules, rules, lit_u64, aEval_U, splice_nil, splice_zero, splice_step, gset_gset, Int.ofNat_inj, U_junk, U_cells, U_cellOk, ub_and, ub_or, ub_xor, ub_andNot, ub_add, ub_sub, ub_mul, ub_shl, ub_shr, ub_shl', ub_shr', ub_eql, ub_neq, ub_lss, ub_leq, ub_gtr, ub_geq, hvf, tu22, c1]
    refine done_q hdom (Kept.refl hdom) ?_ ?_ <;> rfl
  by_cases c2 : (70 : Int) < xs.length
  · simp (maxSteps := 1000000) (disch := first | assumption | omega | rfl | decide) [↓rules, rules, lit_u64, aEval_U, splice_nil, splice_zero, splice_step, gset_gset, Int.ofNat_inj, U_junk, U_cells, U_cellOk, ub_and, ub_or, ub_xor, ub_andNot, ub_add, ub_sub, ub_mul, ub_shl, ub_shr, ub_shl', ub_shr', ub_eql, ub_neq, ub_lss, ub_leq, ub_gtr, ub_geq, hvf, hvx, tu22, tu26, c1, c2]
    refine done_q hdom (Kept.refl hdom) ?_ ?_ <;> rfl
  simp (maxSteps := 1000000) (disch := first | assumption | omega | rfl | decide) [↓rules, rules, lit_u64, aEval_U, splice_nil, splice_zero, splice_step, gset_gset, Int.ofNat_inj, U_junk, U_cells, U_cellOk, ub_and, ub_or, ub_xor, ub_andNot, ub_add, ub_sub, ub_mul, ub_shl, ub_shr, ub_shl', ub_shr', ub_eql, ub_neq, ub_lss, ub_leq, ub_gtr, ub_geq, hvf, hvx, tu22, tu26, c1, c2]
  rw [← hvf, ← hvx]
  have hl : fs.length ≤ 1000 := by omega
  have hl' : xs.length ≤ 1000 := by omega
  have hl2 : fs.length < 4611686018427387904 := by omega
  refine rcall_spec (pairs v fs g n hdom hl hv) rfl (fun _ h => h.elim) rfl fun r g1 n1 ⟨hr, k1⟩ => ?_
  have hv1 := hv.ext (k1.ext hdom)
  have hx1 := hx.ext (k1.ext hdom)
  simp (maxSteps := 1000000) (disch := first | assumption | omega | rfl | decide) [↓rules, rules, lit_u64, aEval_U, splice_nil, splice_zero, splice_step, gset_gset, Int.ofNat_inj, U_junk, U_cells, U_cellOk, ub_and, ub_or, ub_xor, ub_andNot, ub_add, ub_sub, ub_mul, ub_shl, ub_shr, ub_shl', ub_shr', ub_eql, ub_neq, ub_lss, ub_leq, ub_gtr, ub_geq]
  refine rcall_quiet rfl (Put v vx fs xs g1 n1 hl hl' hfo hv1 hx1) ?_
  simp (maxSteps := 1000000) (disch := first | assumption | omega | rfl | decide) [↓rules, rules, lit_u64, aEval_U, splice_nil, splice_zero, splice_step, gset_gset, Int.ofNat_inj, U_junk, U_cells, U_cellOk, ub_and, ub_or, ub_xor, ub_andNot, ub_add, ub_sub, ub_mul, ub_shl, ub_shr, ub_shl', ub_shr', ub_eql, ub_neq, ub_lss, ub_leq, ub_gtr, ub_geq]
  refine rcall_quiet rfl (PutR r vx fs xs g1 n1 hl hl' hfo hr hx1) ?_
  simp (maxSteps := 1000000) (disch := first | assumption | omega | rfl | decide) [↓rules, rules, lit_u64, aEval_U, splice_nil, splice_zero, splice_step, gset_gset, Int.ofNat_inj, U_junk, U_cells, U_cellOk, ub_and, ub_or, ub_xor, ub_andNot, ub_add, ub_sub, ub_mul, ub_shl, ub_shr, ub_shl', ub_shr', ub_eql, ub_neq, ub_lss, ub_leq, ub_gtr, ub_geq]
  refine rcall_quiet rfl (Make x ve g1 n1) ?_
  simp (maxSteps := 1000000) (disch := first | assumption | omega | rfl | decide) [↓rules, rules, lit_u64, aEval_U, splice_nil, splice_zero, splice_step, gset_gset, Int.ofNat_inj, U_junk, U_cells, U_cellOk, ub_and, ub_or, ub_xor, ub_andNot, ub_add, ub_sub, ub_mul, ub_shl, ub_shr, ub_shl', ub_shr', ub_eql, ub_neq, ub_lss, ub_leq, ub_gtr, ub_geq]
  refine rcall_quiet rfl (VerR x ve g1 n1) ?_
  simp (maxSteps := 1000000) (disch := first | assumption | omega | rfl | decide) [↓rules, rules, lit_u64, aEval_U, splice_nil, splice_zero, splice_step, gset_gset, Int.ofNat_inj, U_junk, U_cells, U_cellOk, ub_and, ub_or, ub_xor, ub_andNot, ub_add, ub_sub, ub_mul, ub_shl, ub_shr, ub_shl', ub_shr', ub_eql, ub_neq, ub_lss, ub_leq, ub_gtr, ub_geq]
  refine rcall_quiet rfl (Next w x g1 n1) ?_
  have hvl := ver_lt w
  have hq : w / 281474976710656#64 = w >>> 48 := div48 w
  have hne : 281474976710656#64 ≠ 0#64 := by decide
  have hu : IntKind.i64.wrap (uI (w >>> 48 + 1#64)) = ver w + 1 := by
    have e : uI (w >>> 48 + 1#64) = ver w + 1 := by
      unfold ver uI at hvl ⊢
      rw [BitVec.toNat_add]
      have : (1#64).toNat = 1 := rfl
      omega
    rw [e, wrap_i64 (by omega) (by omega)]
  have hrm : (ver w + 1).tmod 65536 = (ver w + 1) % 65536 := Int.tmod_eq_emod_of_nonneg (by omega)
  simp (maxSteps := 1000000) (disch := first | assumption | omega | rfl | decide) [↓rules, rules, lit_u64, aEval_U, splice_nil, splice_zero, splice_step, gset_gset, Int.ofNat_inj, U_junk, U_cells, U_cellOk, ub_and, ub_or, ub_xor, ub_andNot, ub_add, ub_sub, ub_mul, ub_shl, ub_shr, ub_shl', ub_shr', ub_eql, ub_neq, ub_lss, ub_leq, ub_gtr, ub_geq, ub_quo, hne, hq, conv_of_u64 tu23 tu3, hu, bin_rem, hrm]
  refine rcall_quiet rfl (VerR x _ g1 n1) ?_
  rw [show makeV x ((ver w + 1) % 65536) = nextV w x from rfl]
  simp (maxSteps := 1000000) (disch := first | assumption | omega | rfl | decide) [↓rules, rules, lit_u64, aEval_U, splice_nil, splice_zero, splice_step, gset_gset, Int.ofNat_inj, U_junk, U_cells, U_cellOk, ub_and, ub_or, ub_xor, ub_andNot, ub_add, ub_sub, ub_mul, ub_shl, ub_shr, ub_shl', ub_shr', ub_eql, ub_neq, ub_lss, ub_leq, ub_gtr, ub_geq, bin_eqb tu4]
  refine rcall_quiet rfl (Good v fs g1 n1 hl2 hfo hv1) ?_
  simp (maxSteps := 1000000) (disch := first | assumption | omega | rfl | decide) [↓rules, rules, lit_u64, aEval_U, splice_nil, splice_zero, splice_step, gset_gset, Int.ofNat_inj, U_junk, U_cells, U_cellOk, ub_and, ub_or, ub_xor, ub_andNot, ub_add, ub_sub, ub_mul, ub_shl, ub_shr, ub_shl', ub_shr', ub_eql, ub_neq, ub_lss, ub_leq, ub_gtr, ub_geq]
  refine rcall_quiet rfl (Fields r fs g1 n1 hl hfo hr) ?_
  simp (maxSteps := 1000000) (disch := first | assumption | omega | rfl | decide) [↓rules, rules, lit_u64, aEval_U, splice_nil, splice_zero, splice_step, gset_gset, Int.ofNat_inj, U_junk, U_cells, U_cellOk, ub_and, ub_or, ub_xor, ub_andNot, ub_add, ub_sub, ub_mul, ub_shl, ub_shr, ub_shl', ub_shr', ub_eql, ub_neq, ub_lss, ub_leq, ub_gtr, ub_geq, bin_eqb tu4]
  refine rcall_spec (Get w v fs g1 n1 k1.dom hl hfo hv1) rfl (fun _ h => h.elim) rfl fun r2 g2 n2 ⟨hr2, k2⟩ => ?_
  simp (maxSteps := 1000000) (disch := first | assumption | omega | rfl | decide) [↓rules, rules, lit_u64, aEval_U, splice_nil, splice_zero, splice_step, gset_gset, Int.ofNat_inj, U_junk, U_cells, U_cellOk, ub_and, ub_or, ub_xor, ub_andNot, ub_add, ub_sub, ub_mul, ub_shl, ub_shr, ub_shl', ub_shr', ub_eql, ub_neq, ub_lss, ub_leq, ub_gtr, ub_geq]
  refine rcall_spec (GetR w r fs g2 n2 k2.dom hl hfo (hr.ext (k2.ext k1.dom))) rfl (fun _ h => h.elim) rfl fun r3 g3 n3 ⟨hr3, k3⟩ => ?_
  have hgl : (getsF w fs).length < 4611686018427387904 := by
    rw [getsF]; split
    · simp; omega
    · simp
  simp (maxSteps := 1000000) (disch := first | assumption | omega | rfl | decide) [↓rules, rules, lit_u64, aEval_U, splice_nil, splice_zero, splice_step, gset_gset, Int.ofNat_inj, U_junk, U_cells, U_cellOk, ub_and, ub_or, ub_xor, ub_andNot, ub_add, ub_sub, ub_mul, ub_shl, ub_shr, ub_shl', ub_shr', ub_eql, ub_neq, ub_lss, ub_leq, ub_gtr, ub_geq]
  refine rcall_quiet rfl (words r2 r3 _ _ g3 n3 hgl hgl (hr2.ext (k3.ext k2.dom)) hr3) ?_
  have hv3 := (hv1.ext (k2.ext k1.dom)).ext (k3.ext k2.dom)
  have hr3' := (hr.ext (k2.ext k1.dom)).ext (k3.ext k2.dom)
  simp (maxSteps := 1000000) (disch := first | assumption | omega | rfl | decide) [↓rules, rules, lit_u64, aEval_U, splice_nil, splice_zero, splice_step, gset_gset, Int.ofNat_inj, U_junk, U_cells, U_cellOk, ub_and, ub_or, ub_xor, ub_andNot, ub_add, ub_sub, ub_mul, ub_shl, ub_shr, ub_shl', ub_shr', ub_eql, ub_neq, ub_lss, ub_leq, ub_gtr, ub_geq]
  refine rcall_quiet rfl (Rest w v fs g3 n3 hl2 hfo hv3) ?_
  simp (maxSteps := 1000000) (disch := first | assumption | omega | rfl | decide) [↓rules, rules, lit_u64, aEval_U, splice_nil, splice_zero, splice_step, gset_gset, Int.ofNat_inj, U_junk, U_cells, U_cellOk, ub_and, ub_or, ub_xor, ub_andNot, ub_add, ub_sub, ub_mul, ub_shl, ub_shr, ub_shl', ub_shr', ub_eql, ub_neq, ub_lss, ub_leq, ub_gtr, ub_geq]
  refine rcall_quiet rfl (RestR w r fs g3 n3 hl hfo hr3') ?_
  simp (maxSteps := 1000000) (disch := first | assumption | omega | rfl | decide) [↓rules, rules, lit_u64, aEval_U, splice_nil, splice_zero, splice_step, gset_gset, Int.ofNat_inj, U_junk, U_cells, U_cellOk, ub_and, ub_or, ub_xor, ub_andNot, ub_add, ub_sub, ub_mul, ub_shl, ub_shr, ub_shl', ub_shr', ub_eql, ub_neq, ub_lss, ub_leq, ub_gtr, ub_geq, bin_eqb tu4]
  refine rcall_quiet rfl (Value' w g3 n3) ?_
  simp (maxSteps := 1000000) (disch := first | assumption | omega | rfl | decide) [↓rules, rules, lit_u64, aEval_U, splice_nil, splice_zero, splice_step, gset_gset, Int.ofNat_inj, U_junk, U_cells, U_cellOk, ub_and, ub_or, ub_xor, ub_andNot, ub_add, ub_sub, ub_mul, ub_shl, ub_shr, ub_shl', ub_shr', ub_eql, ub_neq, ub_lss, ub_leq, ub_gtr, ub_geq, ub_rem, hne, mod48]
  refine rcall_quiet rfl (Version w g3 n3) ?_
  have hu2 : IntKind.i64.wrap (uI (w >>> 48)) = ver w := wrap_i64 (by unfold ver at hvl; omega) (by unfold ver at hvl; omega)
  simp (maxSteps := 1000000) (disch := first | assumption | omega | rfl | decide) [↓rules, rules, lit_u64, aEval_U, splice_nil, splice_zero, splice_step, gset_gset, Int.ofNat_inj, U_junk, U_cells, U_cellOk, ub_and, ub_or, ub_xor, ub_andNot, ub_add, ub_sub, ub_mul, ub_shl, ub_shr, ub_shl', ub_shr', ub_eql, ub_neq, ub_lss, ub_leq, ub_gtr, ub_geq, ub_quo, hne, hq, conv_of_u64 tu23 tu3, hu2, bin_eqb tu4]
  refine done_q hdom ((k1.trans k2).trans k3) ?_ ?_ <;> rfl
end Go.Proofs.Ythigpfognkmegaa.F
