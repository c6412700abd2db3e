/- Contracts of functions: what each one returns, and what it leaves. No statement is proved here. -/
import Derived.Test.YthigpfognkmegaaF
set_option linter.unusedVariables false
set_option linter.unusedSimpArgs false
namespace Go.Proofs.Ythigpfognkmegaa.F
open Go Go.Proofs Go.Proofs.YthigpfognkmegaaAbs
def M (a b : Int) : BitVec 64 := ((1#64 <<< b.toNat) - 1#64) <<< a.toNat
set_option maxHeartbeats 2000000
theorem mask (a b : Int) (ha : 0 ≤ a) (hb : 0 ≤ b) (g : AMem) (n : Nat) : FnC Try.prog 46 [.agg #[.int .i64 a, .int .i64 b]] g n (fun _ => False) (U (M a b)) g n := by
  refine fnC_of_rwp t46 hm rfl fun hdom => ?_
  simp (maxSteps := 1000000) (disch := first | assumption | omega | rfl | decide) [↓rules, rules, lit_u64, aEval_U, splice_nil, splice_zero, splice_step, gset_gset, Int.ofNat_inj, U_junk, U_cells, U_cellOk, ub_and, ub_or, ub_xor, ub_andNot, ub_add, ub_sub, ub_mul, ub_shl, ub_shr, ub_shl', ub_shr', ub_eql, ub_neq, ub_lss, ub_leq, ub_gtr, ub_geq, rc46, tf34_0, tf34_1, ta3, ts3]
  refine done_q hdom ((Kept.refl hdom).new _) ?_ ?_ <;> rfl
abbrev okF (a b : Int) (w : BitVec 64) : Prop := 0 ≤ a ∧ a < 64 ∧ 1 ≤ b ∧ b ≤ 64 - a ∧ w &&& M a b = 0#64
/-- All fields' bits. -/
def allF : List (Int × Int) → BitVec 64 → BitVec 64 × Bool
  | [], w => (w, true)
  | f :: fs, w => if okF f.1 f.2 w then allF fs (w ||| M f.1 f.2) else (0#64, false)
def encF (f : Int × Int) : List Value := [.int .i64 f.1, .int .i64 f.2]
def fOk (f : Int × Int) : Prop := -9223372036854775808 ≤ f.1 ∧ f.1 ≤ 9223372036854775807 ∧ -9223372036854775808 ≤ f.2 ∧ f.2 ≤ 9223372036854775807
theorem all (v : Value) (fs : List (Int × Int)) (g : AMem) (n : Nat) (hl : fs.length < 4611686018427387904) (hfo : ∀ f ∈ fs, fOk f) (hv : Rd g 2 encF v fs) : FnC Try.prog 45 [v] g n (fun _ => False) (.tuple #[U (allF fs 0#64).1, .bool (allF fs 0#64).2]) g n := by
  refine fnC_of_rwp t45 hm rfl fun hdom => ?_
  obtain ⟨a, e', hvf⟩ := hv.form
  simp (maxSteps := 1000000) (disch := first | assumption | omega | rfl | decide) [↓rules, rules, lit_u64, aEval_U, splice_nil, splice_zero, splice_step, gset_gset, Int.ofNat_inj, U_junk, U_cells, U_cellOk, ub_and, ub_or, ub_xor, ub_andNot, ub_add, ub_sub, ub_mul, ub_shl, ub_shr, ub_shl', ub_shr', ub_eql, ub_neq, ub_lss, ub_leq, ub_gtr, ub_geq, rc45, hvf, tu22]
  refine rwp_loop (fun k l g' n' => ∃ i w, k = fs.length - i ∧ i ≤ fs.length ∧ Kept g n g' n' ∧ allF (fs.drop i) w = allF fs 0#64 ∧ l = [(4, U w), (7, v), (8, .int .i64 fs.length), (9, .int .i64 i)]) ?_ (k := fs.length) ?_
  · rintro k l g' n' ⟨i, w, rfl, hi, hk, hw, rfl⟩
    simp (maxSteps := 1000000) (disch := first | assumption | omega | rfl | decide) [↓rules, rules, lit_u64, aEval_U, splice_nil, splice_zero, splice_step, gset_gset, Int.ofNat_inj, U_junk, U_cells, U_cellOk, ub_and, ub_or, ub_xor, ub_andNot, ub_add, ub_sub, ub_mul, ub_shl, ub_shr, ub_shl', ub_shr', ub_eql, ub_neq, ub_lss, ub_leq, ub_gtr, ub_geq, rc45l0]
    refine rcond_dec (fun hlt => ?_) (fun hlt => ?_)
    · have hlt : i < fs.length := by omega
      obtain ⟨b, o, cs, rw_, h1, h2, h3, h4, h5⟩ := hv.elem (fun _ => rfl) hlt
      have hb : b < n := hdom b (by rw [h2]; simp)
      have hn := hk.le
      have hbn : b ≠ n' := by omega
      have h2' : g' b = some (.row cs rw_) := by rw [hk.same b hb, h2]
      have hdrop : fs.drop i = fs[i] :: fs.drop (i + 1) := List.drop_eq_getElem_cons hlt
      have hf := hfo fs[i] (List.getElem_mem hlt)
      generalize fs[i] = f at *
      obtain ⟨p, q⟩ := f
      obtain ⟨hf1, hf2, hf3, hf4⟩ := hf
      simp only at hf1 hf2 hf3 hf4
      rw [hdrop, allF] at hw
      have hld := load_elem (P := Try.prog) h2' ta34 ts34 h3 h4
      simp (maxSteps := 1000000) (disch := first | assumption | omega | rfl | decide) [↓rules, rules, lit_u64, aEval_U, splice_nil, splice_zero, splice_step, gset_gset, Int.ofNat_inj, U_junk, U_cells, U_cellOk, ub_and, ub_or, ub_xor, ub_andNot, ub_add, ub_sub, ub_mul, ub_shl, ub_shr, ub_shl', ub_shr', ub_eql, ub_neq, ub_lss, ub_leq, ub_gtr, ub_geq, h1, tu22, ts34, hlt, hld, encF, tz34]
      refine ⟨hn, ?_⟩
      have bad : ¬ okF p q w → allF fs 0#64 = (0#64, false) := fun h => by rw [← hw, if_neg h]
      have kn := (hk.new (.row [.int .i64 p, .int .i64 q] true))
      by_cases c1 : p < 0
      · simp (maxSteps := 1000000) (disch := first | assumption | omega | rfl | decide) [↓rules, rules, lit_u64, aEval_U, splice_nil, splice_zero, splice_step, gset_gset, Int.ofNat_inj, U_junk, U_cells, U_cellOk, ub_and, ub_or, ub_xor, ub_andNot, ub_add, ub_sub, ub_mul, ub_shl, ub_shr, ub_shl', ub_shr', ub_eql, ub_neq, ub_lss, ub_leq, ub_gtr, ub_geq, tf34_0, tf34_1, ta3, ts3, c1]
        refine done_q hdom kn ?_ ?_; · rfl
        rw [bad (by unfold okF; omega)]; rfl
      by_cases c2 : 64 ≤ p
      · simp (maxSteps := 1000000) (disch := first | assumption | omega | rfl | decide) [↓rules, rules, lit_u64, aEval_U, splice_nil, splice_zero, splice_step, gset_gset, Int.ofNat_inj, U_junk, U_cells, U_cellOk, ub_and, ub_or, ub_xor, ub_andNot, ub_add, ub_sub, ub_mul, ub_shl, ub_shr, ub_shl', ub_shr', ub_eql, ub_neq, ub_lss, ub_leq, ub_gtr, ub_geq, tf34_0, tf34_1, ta3, ts3, c1, c2]
        refine done_q hdom kn ?_ ?_; · rfl
        rw [bad (by unfold okF; omega)]; rfl
      by_cases c3 : q < 1
      · simp (maxSteps := 1000000) (disch := first | assumption | omega | rfl | decide) [↓rules, rules, lit_u64, aEval_U, splice_nil, splice_zero, splice_step, gset_gset, Int.ofNat_inj, U_junk, U_cells, U_cellOk, ub_and, ub_or, ub_xor, ub_andNot, ub_add, ub_sub, ub_mul, ub_shl, ub_shr, ub_shl', ub_shr', ub_eql, ub_neq, ub_lss, ub_leq, ub_gtr, ub_geq, tf34_0, tf34_1, ta3, ts3, c1, c2, c3]
        refine done_q hdom kn ?_ ?_; · rfl
        rw [bad (by unfold okF; omega)]; rfl
      by_cases c4 : 64 - p < q
      · simp (maxSteps := 1000000) (disch := first | assumption | omega | rfl | decide) [↓rules, rules, lit_u64, aEval_U, splice_nil, splice_zero, splice_step, gset_gset, Int.ofNat_inj, U_junk, U_cells, U_cellOk, ub_and, ub_or, ub_xor, ub_andNot, ub_add, ub_sub, ub_mul, ub_shl, ub_shr, ub_shl', ub_shr', ub_eql, ub_neq, ub_lss, ub_leq, ub_gtr, ub_geq, tf34_0, tf34_1, ta3, ts3, c1, c2, c3, wrap_i64, c4]
        refine done_q hdom kn ?_ ?_; · rfl
        rw [bad (by unfold okF; omega)]; rfl
      simp (maxSteps := 1000000) (disch := first | assumption | omega | rfl | decide) [↓rules, rules, lit_u64, aEval_U, splice_nil, splice_zero, splice_step, gset_gset, Int.ofNat_inj, U_junk, U_cells, U_cellOk, ub_and, ub_or, ub_xor, ub_andNot, ub_add, ub_sub, ub_mul, ub_shl, ub_shr, ub_shl', ub_shr', ub_eql, ub_neq, ub_lss, ub_leq, ub_gtr, ub_geq, tf34_0, tf34_1, ta3, ts3, c1, c2, c3, wrap_i64, c4, ta34, ts34]
      refine rcall_quiet rfl (mask p q (by omega) (by omega) _ _) ?_
      simp (maxSteps := 1000000) (disch := first | assumption | omega | rfl | decide) [↓rules, rules, lit_u64, aEval_U, splice_nil, splice_zero, splice_step, gset_gset, Int.ofNat_inj, U_junk, U_cells, U_cellOk, ub_and, ub_or, ub_xor, ub_andNot, ub_add, ub_sub, ub_mul, ub_shl, ub_shr, ub_shl', ub_shr', ub_eql, ub_neq, ub_lss, ub_leq, ub_gtr, ub_geq]
      refine rcond_bool (fun c5 => ?_) (fun c5 => ?_)
      · refine done_q hdom kn ?_ ?_; · rfl
        rw [bad (by unfold okF; intro h; simp [h.2.2.2.2] at c5)]; rfl
      · have good : okF p q w := by unfold okF; refine ⟨by omega, by omega, by omega, by omega, ?_⟩; simpa using c5
        simp (maxSteps := 1000000) (disch := first | assumption | omega | rfl | decide) [↓rules, rules, lit_u64, aEval_U, splice_nil, splice_zero, splice_step, gset_gset, Int.ofNat_inj, U_junk, U_cells, U_cellOk, ub_and, ub_or, ub_xor, ub_andNot, ub_add, ub_sub, ub_mul, ub_shl, ub_shr, ub_shl', ub_shr', ub_eql, ub_neq, ub_lss, ub_leq, ub_gtr, ub_geq, ta34, ts34]
        refine rcall_quiet rfl (mask p q (by omega) (by omega) _ _) ?_
        simp (maxSteps := 1000000) (disch := first | assumption | omega | rfl | decide) [↓rules, rules, lit_u64, aEval_U, splice_nil, splice_zero, splice_step, gset_gset, Int.ofNat_inj, U_junk, U_cells, U_cellOk, ub_and, ub_or, ub_xor, ub_andNot, ub_add, ub_sub, ub_mul, ub_shl, ub_shr, ub_shl', ub_shr', ub_eql, ub_neq, ub_lss, ub_leq, ub_gtr, ub_geq, wrap_i64]
        refine ⟨fs.length - (i + 1), by omega, i + 1, rfl, by omega, kn, w ||| M p q, ?_, by simp⟩
        rw [← hw, if_pos good]
    · refine done_q hdom hk ?_ ?_; · rfl
      have : i = fs.length := by omega
      subst this
      rw [List.drop_length, allF] at hw
      rw [← hw]; rfl
  · exact ⟨0, 0#64, by simp, by simp, Kept.refl hdom, by simp, by rw [← hvf]; rfl⟩

def goodF (fs : List (Int × Int)) : Bool := (allF fs 0#64).2
abbrev rdF (g : AMem) (v : Value) (fs : List (Int × Int)) : Prop := Rd g 2 encF v fs
abbrev rdW (g : AMem) (v : Value) (ws : List (BitVec 64)) : Prop := Rd g 1 (fun w => [U w]) v ws
theorem Good (v : Value) (fs : List (Int × Int)) (g : AMem) (n : Nat) (hl : fs.length < 4611686018427387904) (hfo : ∀ f ∈ fs, fOk f) (hv : rdF g v fs) : FnC Try.prog 12 [v] g n (fun _ => False) (.bool (goodF fs)) g n := by
  refine fnC_of_rwp t12 hm rfl fun hdom => ?_
  simp (maxSteps := 1000000) (disch := first | assumption | omega | rfl | decide) [↓rules, rules, lit_u64, aEval_U, splice_nil, splice_zero, splice_step, gset_gset, Int.ofNat_inj, U_junk, U_cells, U_cellOk, ub_and, ub_or, ub_xor, ub_andNot, ub_add, ub_sub, ub_mul, ub_shl, ub_shr, ub_shl', ub_shr', ub_eql, ub_neq, ub_lss, ub_leq, ub_gtr, ub_geq, rc12]
  refine rcall_quiet rfl (all v fs g n hl hfo hv) ?_
  simp (maxSteps := 1000000) (disch := first | assumption | omega | rfl | decide) [↓rules, rules, lit_u64, aEval_U, splice_nil, splice_zero, splice_step, gset_gset, Int.ofNat_inj, U_junk, U_cells, U_cellOk, ub_and, ub_or, ub_xor, ub_andNot, ub_add, ub_sub, ub_mul, ub_shl, ub_shr, ub_shl', ub_shr', ub_eql, ub_neq, ub_lss, ub_leq, ub_gtr, ub_geq]
  refine done_q hdom (Kept.refl hdom) ?_ ?_ <;> rfl
theorem Rest (w : BitVec 64) (v : Value) (fs : List (Int × Int)) (g : AMem) (n : Nat) (hl : fs.length < 4611686018427387904) (hfo : ∀ f ∈ fs, fOk f) (hv : rdF g v fs) : FnC Try.prog 15 [U w, v] g n (fun _ => False) (U (w &&& ~~~ (allF fs 0#64).1)) g n := by
  refine fnC_of_rwp t15 hm rfl fun hdom => ?_
  simp (maxSteps := 1000000) (disch := first | assumption | omega | rfl | decide) [↓rules, rules, lit_u64, aEval_U, splice_nil, splice_zero, splice_step, gset_gset, Int.ofNat_inj, U_junk, U_cells, U_cellOk, ub_and, ub_or, ub_xor, ub_andNot, ub_add, ub_sub, ub_mul, ub_shl, ub_shr, ub_shl', ub_shr', ub_eql, ub_neq, ub_lss, ub_leq, ub_gtr, ub_geq, rc15]
  refine rcall_quiet rfl (all v fs g n hl hfo hv) ?_
  simp (maxSteps := 1000000) (disch := first | assumption | omega | rfl | decide) [↓rules, rules, lit_u64, aEval_U, splice_nil, splice_zero, splice_step, gset_gset, Int.ofNat_inj, U_junk, U_cells, U_cellOk, ub_and, ub_or, ub_xor, ub_andNot, ub_add, ub_sub, ub_mul, ub_shl, ub_shr, ub_shl', ub_shr', ub_eql, ub_neq, ub_lss, ub_leq, ub_gtr, ub_geq]
  refine done_q hdom (Kept.refl hdom) ?_ ?_ <;> rfl
theorem words (va vb : Value) (xs ys : List (BitVec 64)) (g : AMem) (n : Nat) (hl : xs.length < 4611686018427387904) (hl' : ys.length < 4611686018427387904) (ha : rdW g va xs) (hb : rdW g vb ys) : FnC Try.prog 16 [va, vb] g n (fun _ => False) (.bool (decide (xs = ys))) g n := by
  refine fnC_of_rwp t16 hm rfl fun hdom => ?_
  obtain ⟨a, ea, hva⟩ := ha.form
  obtain ⟨b, eb, hvb⟩ := hb.form
  by_cases hne : xs.length = ys.length
  case neg =>
    simp (maxSteps := 1000000) (disch := first | assumption | omega | rfl | decide) [↓rules, rules, lit_u64, aEval_U, splice_nil, splice_zero, splice_step, gset_gset, Int.ofNat_inj, U_junk, U_cells, U_cellOk, ub_and, ub_or, ub_xor, ub_andNot, ub_add, ub_sub, ub_mul, ub_shl, ub_shr, ub_shl', ub_shr', ub_eql, ub_neq, ub_lss, ub_leq, ub_gtr, ub_geq, rc16, hva, hvb, tu26, hne]
    refine done_q hdom (Kept.refl hdom) ?_ ?_; · rfl
    rw [show decide (xs = ys) = false by simp only [decide_eq_false_iff_not]; intro h; exact hne (by rw [h])]; rfl
  simp (maxSteps := 1000000) (disch := first | assumption | omega | rfl | decide) [↓rules, rules, lit_u64, aEval_U, splice_nil, splice_zero, splice_step, gset_gset, Int.ofNat_inj, U_junk, U_cells, U_cellOk, ub_and, ub_or, ub_xor, ub_andNot, ub_add, ub_sub, ub_mul, ub_shl, ub_shr, ub_shl', ub_shr', ub_eql, ub_neq, ub_lss, ub_leq, ub_gtr, ub_geq, rc16, hva, hvb, tu26, hne]
  rw [← hvb, show Value.slice a ys.length ea = va by rw [hva, hne]]
  refine rwp_loop (fun k l g' n' => ∃ i, k = xs.length - i ∧ i ≤ xs.length ∧ g' = g ∧ n' = n ∧ xs.take i = ys.take i ∧ l = [(0, va), (1, vb), (5, .int .i64 i)]) ?_ (k := xs.length) ?_
  · rintro k l g' n' ⟨i, rfl, hi, rfl, rfl, he, rfl⟩
    simp (maxSteps := 1000000) (disch := first | assumption | omega | rfl | decide) [↓rules, rules, lit_u64, aEval_U, splice_nil, splice_zero, splice_step, gset_gset, Int.ofNat_inj, U_junk, U_cells, U_cellOk, ub_and, ub_or, ub_xor, ub_andNot, ub_add, ub_sub, ub_mul, ub_shl, ub_shr, ub_shl', ub_shr', ub_eql, ub_neq, ub_lss, ub_leq, ub_gtr, ub_geq, rc16l0, hva, tu26]
    refine rcond_dec (fun hlt => ?_) (fun hlt => ?_)
    · have hlt1 : i < xs.length := by omega
      obtain ⟨b1, o1, h1, _, h2⟩ := ha.one hlt1
      obtain ⟨b2, o2, h3, _, h4⟩ := hb.one (show i < ys.length by omega)
      have e1 := h2 g' (Ext.refl _) Try.prog 23 ta23
      have e2 := h4 g' (Ext.refl _) Try.prog 23 ta23
      rw [← hva]
      have hlt2 : i < ys.length := by omega
      simp (maxSteps := 1000000) (disch := first | assumption | omega | rfl | decide) [↓rules, rules, lit_u64, aEval_U, splice_nil, splice_zero, splice_step, gset_gset, Int.ofNat_inj, U_junk, U_cells, U_cellOk, ub_and, ub_or, ub_xor, ub_andNot, ub_add, ub_sub, ub_mul, ub_shl, ub_shr, ub_shl', ub_shr', ub_eql, ub_neq, ub_lss, ub_leq, ub_gtr, ub_geq, h1, h3, tu26, ts23, e1, e2, hne, hlt2]
      have htake : ∀ (zs : List (BitVec 64)) (h : i < zs.length), zs.take (i + 1) = zs.take i ++ [zs[i]] := fun zs h => by rw [List.take_add_one, List.getElem?_eq_getElem h]; rfl
      refine rcond_bool (fun c => ?_) (fun c => ?_)
      · refine done_q hdom (Kept.refl hdom) ?_ ?_; · rfl
        have c : xs[i] ≠ ys[i] := by simpa using c
        rw [show decide (xs = ys) = false by simp only [decide_eq_false_iff_not]; intro h; subst h; exact c rfl]; rfl
      · have c : xs[i] = ys[i] := by simpa using c
        simp (maxSteps := 1000000) (disch := first | assumption | omega | rfl | decide) [↓rules, rules, lit_u64, aEval_U, splice_nil, splice_zero, splice_step, gset_gset, Int.ofNat_inj, U_junk, U_cells, U_cellOk, ub_and, ub_or, ub_xor, ub_andNot, ub_add, ub_sub, ub_mul, ub_shl, ub_shr, ub_shl', ub_shr', ub_eql, ub_neq, ub_lss, ub_leq, ub_gtr, ub_geq, wrap_i64]
        refine ⟨ys.length - (i + 1), by omega, i + 1, rfl, by omega, ?_⟩
        refine ⟨by rw [htake xs hlt1, htake ys hlt2, he, c], ?_⟩
        simp
    · refine done_q hdom (Kept.refl hdom) ?_ ?_; · rfl
      have e1 : i = xs.length := by omega
      have e2 : i = ys.length := by omega
      rw [e1, List.take_length, ← e1, e2, List.take_length] at he
      rw [show decide (xs = ys) = true by simpa using he]; rfl
  · exact ⟨0, by simp, by simp, rfl, rfl, by simp, by rfl⟩

theorem allF_good : ∀ (fs : List (Int × Int)) (w : BitVec 64), (allF fs w).2 = true → ∀ f ∈ fs, 0 ≤ f.1 ∧ f.1 < 64 ∧ 1 ≤ f.2 ∧ f.2 ≤ 64 - f.1
  | [], w, h, f, hf => by cases hf
  | x :: fs, w, h, f, hf => by
    rw [allF] at h
    split at h
    · rename_i ho
      cases hf with
      | head => exact ⟨ho.1, ho.2.1, ho.2.2.1, ho.2.2.2.1⟩
      | tail _ hf => exact allF_good fs _ h f hf
    · cases h
def getF (w : BitVec 64) (f : Int × Int) : BitVec 64 := (w &&& M f.1 f.2) >>> f.1.toNat
def getsF (w : BitVec 64) (fs : List (Int × Int)) : List (BitVec 64) := if goodF fs = true then fs.map (getF w) else []
theorem cellOks (ws : List (BitVec 64)) : (ws.map U).all cellOk = true := by
  induction ws with
  | nil => rfl
  | cons w ws ih => simp [ih, U_cellOk]
theorem Get (w : BitVec 64) (v : Value) (fs : List (Int × Int)) (g : AMem) (n : Nat) (hdom : ∀ i, g i ≠ none → i < n) (hl : fs.length ≤ 1000) (hfo : ∀ f ∈ fs, fOk f) (hv : rdF g v fs) :
    FnS Try.prog 13 [U w, v] g n (fun _ => False) fun r g' n' => rdW g' r (getsF w fs) ∧ Kept g n g' n' := by
  refine fnS_of_rwp t13 hm rfl hdom ?_
  obtain ⟨a, e', hvf⟩ := hv.form
  simp (maxSteps := 1000000) (disch := first | assumption | omega | rfl | decide) [↓rules, rules, lit_u64, aEval_U, splice_nil, splice_zero, splice_step, gset_gset, Int.ofNat_inj, U_junk, U_cells, U_cellOk, ub_and, ub_or, ub_xor, ub_andNot, ub_add, ub_sub, ub_mul, ub_shl, ub_shr, ub_shl', ub_shr', ub_eql, ub_neq, ub_lss, ub_leq, ub_gtr, ub_geq, rc13]
  refine rcall_quiet rfl (Good v fs g n (by omega) hfo hv) ?_
  simp (maxSteps := 1000000) (disch := first | assumption | omega | rfl | decide) [↓rules, rules, lit_u64, aEval_U, splice_nil, splice_zero, splice_step, gset_gset, Int.ofNat_inj, U_junk, U_cells, U_cellOk, ub_and, ub_or, ub_xor, ub_andNot, ub_add, ub_sub, ub_mul, ub_shl, ub_shr, ub_shl', ub_shr', ub_eql, ub_neq, ub_lss, ub_leq, ub_gtr, ub_geq, hvf, tu22, aMake_eq tu26 ts23 tb23 tv23, zeroRow_zero]
  refine rcond_bool (fun c => ?_) (fun c => ?_)
  · have c : goodF fs = false := by simpa using c
    refine sdone_ret rfl ⟨?_, Kept.refl hdom⟩
    rw [getsF, c]; exact Rd.nil
  · have c : goodF fs = true := by simpa using c
    have hok := allF_good fs 0#64 c
    have l1 : (fs.length : Int) ≤ 70368744177664 := by omega
    have l2 : 8 * fs.length ≤ 70368744177664 := by omega
    simp (maxSteps := 1000000) (disch := first | assumption | omega | rfl | decide) [↓rules, rules, lit_u64, aEval_U, splice_nil, splice_zero, splice_step, gset_gset, Int.ofNat_inj, U_junk, U_cells, U_cellOk, ub_and, ub_or, ub_xor, ub_andNot, ub_add, ub_sub, ub_mul, ub_shl, ub_shr, ub_shl', ub_shr', ub_eql, ub_neq, ub_lss, ub_leq, ub_gtr, ub_geq, l1, l2, hvf, tu22]
    refine rwp_loop (fun k l g' n' => ∃ i b, k = fs.length - i ∧ i ≤ fs.length ∧ Kept g n g' n' ∧ n ≤ b ∧ g' b = some (.row ((fs.map fun f => U (getF w f)).take i) true) ∧ l = [(0, U w), (5, .slice (some ⟨b, 0, none⟩) i 1), (14, v), (15, .int .i64 fs.length), (16, .int .i64 i)]) ?_ (k := fs.length) ?_
    · rintro k l g' n' ⟨i, b, rfl, hi, hk, hb, hgb, rfl⟩
      simp (maxSteps := 1000000) (disch := first | assumption | omega | rfl | decide) [↓rules, rules, lit_u64, aEval_U, splice_nil, splice_zero, splice_step, gset_gset, Int.ofNat_inj, U_junk, U_cells, U_cellOk, ub_and, ub_or, ub_xor, ub_andNot, ub_add, ub_sub, ub_mul, ub_shl, ub_shr, ub_shl', ub_shr', ub_eql, ub_neq, ub_lss, ub_leq, ub_gtr, ub_geq, rc13l0]
      refine rcond_dec (fun hlt => ?_) (fun hlt => ?_)
      · have hlt : i < fs.length := by omega
        obtain ⟨b1, o1, h1, hb1, h2, h3⟩ := Rd.many (enc := encF) (e := 2) (fun _ => rfl) hv hlt
        have e1 := h2 g' (hk.ext hdom) Try.prog 34 ta34 ts34
        have hp := hok fs[i] (List.getElem_mem hlt)
        have hb1 := hdom b1 hb1
        have hbn := hk.lt hgb
        have hn := hk.le
        simp (maxSteps := 1000000) (disch := first | assumption | omega | rfl | decide) [↓rules, rules, lit_u64, aEval_U, splice_nil, splice_zero, splice_step, gset_gset, Int.ofNat_inj, U_junk, U_cells, U_cellOk, ub_and, ub_or, ub_xor, ub_andNot, ub_add, ub_sub, ub_mul, ub_shl, ub_shr, ub_shl', ub_shr', ub_eql, ub_neq, ub_lss, ub_leq, ub_gtr, ub_geq, h1, tu22, ts34, hlt, e1, encF, tz34, tf34_0, ta34]
        refine ⟨hn, ?_⟩
        refine rcall_quiet rfl (mask _ _ (by omega) (by omega) _ _) ?_
        have hbn1 : b ≠ n' := by omega
        have hbn2 : b ≠ n' + 1 := by omega
        have hsz : (i + 1) * 8 ≤ 70368744177664 := by omega
        have hsz2 : i + 1 ≤ 70368744177664 := by omega
        have hmin : min i fs.length = i := by omega
        simp (maxSteps := 1000000) (disch := first | assumption | omega | rfl | decide) [↓rules, rules, lit_u64, aEval_U, splice_nil, splice_zero, splice_step, gset_gset, Int.ofNat_inj, U_junk, U_cells, U_cellOk, ub_and, ub_or, ub_xor, ub_andNot, ub_add, ub_sub, ub_mul, ub_shl, ub_shr, ub_shl', ub_shr', ub_eql, ub_neq, ub_lss, ub_leq, ub_gtr, ub_geq, fillS_nil, fillS_cons, fillP_nil, fillP_cons, fillO_some, nthP_cons, zeroRow_one, aRead_at, aRead_nil, readR_row, appR_nil, appR_row, appR1_row, appR_zero, grow_row, hbn1, hbn2, hsz, hsz2, hmin, tf34_0, tf34_1, ta3, ts3, do_buildL tu26 tz23 ts23 rfl, aAppend1 tu26 ts23 tb23 tv23 rfl, hgb]
        refine ⟨hb, fs.length - (i + 1), by omega, i + 1, rfl, by omega, (((hk.new _).new _).drop hb).new _, n' + 1 + 1, by omega, ?_, ⟨rfl, rfl⟩, wrap_i64 (by omega) (by omega)⟩
        rw [if_pos rfl, List.take_add_one, List.getElem?_eq_getElem (by simpa using hlt)]
        simp [getF]
      · have : i = fs.length := by omega
        refine sdone_ret rfl ⟨?_, hk⟩
        rw [getsF, if_pos c]
        show Rd g' 1 (fun w => [U w]) (.slice (some ⟨b, 0, none⟩) i 1) _
        refine Rd.of_row (enc := fun w => [U w]) (fun _ => rfl) hgb ?_ ?_ ?_
        · simp; omega
        · subst this; simp [flatMap_one, List.take_of_length_le, Function.comp_def]
        · simp; omega
    · exact ⟨0, n, by simp, by simp, (Kept.refl hdom).new _, Nat.le_refl _, by simp [gset], by rw [← hvf]; rfl⟩
def putF : List (Int × Int) → List (BitVec 64) → BitVec 64 → BitVec 64 × Bool
  | f :: fs, x :: xs, w => if M f.1 f.2 >>> f.1.toNat < x then (0#64, false) else putF fs xs (w ||| x <<< f.1.toNat)
  | _, _, w => (w, true)
def putsF (fs : List (Int × Int)) (xs : List (BitVec 64)) : BitVec 64 × Bool := if goodF fs = true ∧ fs.length = xs.length then putF fs xs 0#64 else (0#64, false)
theorem Put (v vx : Value) (fs : List (Int × Int)) (xs : List (BitVec 64)) (g : AMem) (n : Nat) (hl : fs.length ≤ 1000) (hl' : xs.length ≤ 1000) (hfo : ∀ f ∈ fs, fOk f) (hv : rdF g v fs) (hx : rdW g vx xs) :
    FnC Try.prog 14 [v, vx] g n (fun _ => False) (.tuple #[U (putsF fs xs).1, .bool (putsF fs xs).2]) g n := by
  refine fnC_of_rwp t14 hm rfl fun hdom => ?_
  obtain ⟨a, e', hvf⟩ := hv.form
  obtain ⟨ax, ex, hvx⟩ := hx.form
  simp (maxSteps := 1000000) (disch := first | assumption | omega | rfl | decide) [↓rules, rules, lit_u64, aEval_U, splice_nil, splice_zero, splice_step, gset_gset, Int.ofNat_inj, U_junk, U_cells, U_cellOk, ub_and, ub_or, ub_xor, ub_andNot, ub_add, ub_sub, ub_mul, ub_shl, ub_shr, ub_shl', ub_shr', ub_eql, ub_neq, ub_lss, ub_leq, ub_gtr, ub_geq, rc14]
  refine rcall_quiet rfl (Good v fs g n (by omega) hfo hv) ?_
  cases c : goodF fs
  · simp (maxSteps := 1000000) (disch := first | assumption | omega | rfl | decide) [↓rules, rules, lit_u64, aEval_U, splice_nil, splice_zero, splice_step, gset_gset, Int.ofNat_inj, U_junk, U_cells, U_cellOk, ub_and, ub_or, ub_xor, ub_andNot, ub_add, ub_sub, ub_mul, ub_shl, ub_shr, ub_shl', ub_shr', ub_eql, ub_neq, ub_lss, ub_leq, ub_gtr, ub_geq]
    refine done_q hdom (Kept.refl hdom) ?_ ?_; · rfl
    rw [putsF, c]; simp; rfl
  by_cases hne : fs.length = xs.length
  case neg =>
    simp (maxSteps := 1000000) (disch := first | assumption | omega | rfl | decide) [↓rules, rules, lit_u64, aEval_U, splice_nil, splice_zero, splice_step, gset_gset, Int.ofNat_inj, U_junk, U_cells, U_cellOk, ub_and, ub_or, ub_xor, ub_andNot, ub_add, ub_sub, ub_mul, ub_shl, ub_shr, ub_shl', ub_shr', ub_eql, ub_neq, ub_lss, ub_leq, ub_gtr, ub_geq, hvf, hvx, tu22, tu26, hne]
    refine done_q hdom (Kept.refl hdom) ?_ ?_; · rfl
    rw [putsF, if_neg (fun h => hne h.2)]; rfl
  simp (maxSteps := 1000000) (disch := first | assumption | omega | rfl | decide) [↓rules, rules, lit_u64, aEval_U, splice_nil, splice_zero, splice_step, gset_gset, Int.ofNat_inj, U_junk, U_cells, U_cellOk, ub_and, ub_or, ub_xor, ub_andNot, ub_add, ub_sub, ub_mul, ub_shl, ub_shr, ub_shl', ub_shr', ub_eql, ub_neq, ub_lss, ub_leq, ub_gtr, ub_geq, hvf, hvx, tu22, tu26, hne]
  rw [putsF, if_pos ⟨c, hne⟩]
  have hok := allF_good fs 0#64 c
  rw [show Value.slice a xs.length e' = v by rw [hvf, hne], ← hvx]
  refine rwp_loop (fun k l g' n' => ∃ i w, k = fs.length - i ∧ i ≤ fs.length ∧ Kept g n g' n' ∧ putF (fs.drop i) (xs.drop i) w = putF fs xs 0#64 ∧ l = [(1, vx), (6, U w), (19, v), (20, .int .i64 xs.length), (21, .int .i64 i)]) ?_ (k := fs.length) ?_
  · rintro k l g' n' ⟨i, w, rfl, hi, hk, hw, rfl⟩
    simp (maxSteps := 1000000) (disch := first | assumption | omega | rfl | decide) [↓rules, rules, lit_u64, aEval_U, splice_nil, splice_zero, splice_step, gset_gset, Int.ofNat_inj, U_junk, U_cells, U_cellOk, ub_and, ub_or, ub_xor, ub_andNot, ub_add, ub_sub, ub_mul, ub_shl, ub_shr, ub_shl', ub_shr', ub_eql, ub_neq, ub_lss, ub_leq, ub_gtr, ub_geq, rc14l0]
    refine rcond_dec (fun hlt => ?_) (fun hlt => ?_)
    · have hlt : i < fs.length := by omega
      have hltx : i < xs.length := by omega
      obtain ⟨b1, o1, h1, hb1, h2, h3⟩ := Rd.many (enc := encF) (e := 2) (fun _ => rfl) hv hlt
      obtain ⟨b2, o2, h4, hb2, h5⟩ := hx.one hltx
      have e1 := h2 g' (hk.ext hdom) Try.prog 34 ta34 ts34
      have hp := hok fs[i] (List.getElem_mem hlt)
      have kn := hk.new (.row [.int .i64 fs[i].1, .int .i64 fs[i].2] true)
      have e2 := h5 _ (kn.ext hdom) Try.prog 23 ta23
      have hn := hk.le
      have hb2 := hdom b2 hb2
      have hb2n : b2 ≠ n' := by omega
      simp (maxSteps := 1000000) (disch := first | assumption | omega | rfl | decide) [↓rules, rules, lit_u64, aEval_U, splice_nil, splice_zero, splice_step, gset_gset, Int.ofNat_inj, U_junk, U_cells, U_cellOk, ub_and, ub_or, ub_xor, ub_andNot, ub_add, ub_sub, ub_mul, ub_shl, ub_shr, ub_shl', ub_shr', ub_eql, ub_neq, ub_lss, ub_leq, ub_gtr, ub_geq, h1, tu22, ts34, hlt, hltx, hne, e1, encF, tz34, tf34_0, ta34]
      refine ⟨hn, ?_⟩
      rw [h4]
      simp (maxSteps := 1000000) (disch := first | assumption | omega | rfl | decide) [↓rules, rules, lit_u64, aEval_U, splice_nil, splice_zero, splice_step, gset_gset, Int.ofNat_inj, U_junk, U_cells, U_cellOk, ub_and, ub_or, ub_xor, ub_andNot, ub_add, ub_sub, ub_mul, ub_shl, ub_shr, ub_shl', ub_shr', ub_eql, ub_neq, ub_lss, ub_leq, ub_gtr, ub_geq, tf34_0, tf34_1, ta34, ts34, tu26, ts23, hltx, e2]
      refine rcall_quiet rfl (mask _ _ (by omega) (by omega) _ _) ?_
      have hdf : fs.drop i = fs[i] :: fs.drop (i + 1) := List.drop_eq_getElem_cons hlt
      have hdx : xs.drop i = xs[i] :: xs.drop (i + 1) := List.drop_eq_getElem_cons hltx
      rw [hdf, hdx, putF] at hw
      simp (maxSteps := 1000000) (disch := first | assumption | omega | rfl | decide) [↓rules, rules, lit_u64, aEval_U, splice_nil, splice_zero, splice_step, gset_gset, Int.ofNat_inj, U_junk, U_cells, U_cellOk, ub_and, ub_or, ub_xor, ub_andNot, ub_add, ub_sub, ub_mul, ub_shl, ub_shr, ub_shl', ub_shr', ub_eql, ub_neq, ub_lss, ub_leq, ub_gtr, ub_geq, tf34_0, tf34_1, ta3, ts3]
      refine rcond_dec (fun c2 => ?_) (fun c2 => ?_)
      · refine done_q hdom kn ?_ ?_; · rfl
        rw [if_pos c2] at hw; rw [← hw]; rfl
      · rw [if_neg c2] at hw
        simp (maxSteps := 1000000) (disch := first | assumption | omega | rfl | decide) [↓rules, rules, lit_u64, aEval_U, splice_nil, splice_zero, splice_step, gset_gset, Int.ofNat_inj, U_junk, U_cells, U_cellOk, ub_and, ub_or, ub_xor, ub_andNot, ub_add, ub_sub, ub_mul, ub_shl, ub_shr, ub_shl', ub_shr', ub_eql, ub_neq, ub_lss, ub_leq, ub_gtr, ub_geq, tf34_0, tf34_1, ta3, ts3, ta34, ts34, tu26, ts23, hltx, e2]
        refine ⟨xs.length - (i + 1), by omega, i + 1, rfl, by omega, kn, _, hw, ?_⟩
        simp [wrap_i64 (show -9223372036854775808 ≤ (i : Int) + 1 by omega) (by omega)]
    · have : i = fs.length := by omega
      refine done_q hdom hk ?_ ?_; · rfl
      rw [this, List.drop_length, putF] at hw
      · rw [← hw]; rfl
      · simp
  · exact ⟨0, 0#64, by simp, by simp, Kept.refl hdom, by simp, by rfl⟩
theorem Value' (w : BitVec 64) (g : AMem) (n : Nat) : FnC Try.prog 19 [U w] g n (fun _ => False) (U (w &&& 281474976710655#64)) g n := by
  refine fnC_of_rwp t19 hm rfl fun hdom => ?_
  simp (maxSteps := 1000000) (disch := first | assumption | omega | rfl | decide) [↓rules, rules, lit_u64, aEval_U, splice_nil, splice_zero, splice_step, gset_gset, Int.ofNat_inj, U_junk, U_cells, U_cellOk, ub_and, ub_or, ub_xor, ub_andNot, ub_add, ub_sub, ub_mul, ub_shl, ub_shr, ub_shl', ub_shr', ub_eql, ub_neq, ub_lss, ub_leq, ub_gtr, ub_geq, rc19]
  refine done_q hdom (Kept.refl hdom) ?_ ?_ <;> rfl
def ver (w : BitVec 64) : Int := uI (w >>> 48)
theorem ver_lt (w : BitVec 64) : 0 ≤ ver w ∧ ver w < 65536 := by
  have h2 : (w >>> 48).toNat < 65536 := by simp [BitVec.toNat_ushiftRight, Nat.shiftRight_eq_div_pow]; omega
  unfold ver uI; omega
theorem Version (w : BitVec 64) (g : AMem) (n : Nat) : FnC Try.prog 20 [U w] g n (fun _ => False) (.int .i64 (ver w)) g n := by
  refine fnC_of_rwp t20 hm rfl fun hdom => ?_
  have := ver_lt w
  have e : IntKind.i64.wrap (uI (w >>> 48)) = ver w := wrap_i64 (by unfold ver at this; omega) (by unfold ver at this; omega)
  simp (maxSteps := 1000000) (disch := first | assumption | omega | rfl | decide) [↓rules, rules, lit_u64, aEval_U, splice_nil, splice_zero, splice_step, gset_gset, Int.ofNat_inj, U_junk, U_cells, U_cellOk, ub_and, ub_or, ub_xor, ub_andNot, ub_add, ub_sub, ub_mul, ub_shl, ub_shr, ub_shl', ub_shr', ub_eql, ub_neq, ub_lss, ub_leq, ub_gtr, ub_geq, rc20, conv_of_u64 tu37 tu3, e]
  refine done_q hdom (Kept.refl hdom) ?_ ?_ <;> rfl
def makeV (x : BitVec 64) (v : Int) : BitVec 64 × Bool := if x < 281474976710656#64 ∧ 0 ≤ v ∧ v ≤ 65535 then (x ||| BitVec.ofInt 64 v <<< 48, true) else (0#64, false)
theorem Make (x : BitVec 64) (v : Int) (g : AMem) (n : Nat) : FnC Try.prog 17 [U x, .int .i64 v] g n (fun _ => False) (.tuple #[U (makeV x v).1, .bool (makeV x v).2]) g n := by
  refine fnC_of_rwp t17 hm rfl fun hdom => ?_
  have bad : ¬ (x < 281474976710656#64 ∧ 0 ≤ v ∧ v ≤ 65535) → makeV x v = (0#64, false) := fun h => if_neg h
  by_cases c1 : 281474976710656#64 ≤ x
  · simp (maxSteps := 1000000) (disch := first | assumption | omega | rfl | decide) [↓rules, rules, lit_u64, aEval_U, splice_nil, splice_zero, splice_step, gset_gset, Int.ofNat_inj, U_junk, U_cells, U_cellOk, ub_and, ub_or, ub_xor, ub_andNot, ub_add, ub_sub, ub_mul, ub_shl, ub_shr, ub_shl', ub_shr', ub_eql, ub_neq, ub_lss, ub_leq, ub_gtr, ub_geq, rc17, c1]
    refine done_q hdom (Kept.refl hdom) ?_ ?_; · rfl
    rw [bad (fun h => absurd h.1 (BitVec.not_lt.2 c1))]; rfl
  by_cases c2 : v < 0
  · simp (maxSteps := 1000000) (disch := first | assumption | omega | rfl | decide) [↓rules, rules, lit_u64, aEval_U, splice_nil, splice_zero, splice_step, gset_gset, Int.ofNat_inj, U_junk, U_cells, U_cellOk, ub_and, ub_or, ub_xor, ub_andNot, ub_add, ub_sub, ub_mul, ub_shl, ub_shr, ub_shl', ub_shr', ub_eql, ub_neq, ub_lss, ub_leq, ub_gtr, ub_geq, rc17, c1, c2]
    refine done_q hdom (Kept.refl hdom) ?_ ?_; · rfl
    rw [bad (by omega)]; rfl
  by_cases c3 : 65535 < v
  · simp (maxSteps := 1000000) (disch := first | assumption | omega | rfl | decide) [↓rules, rules, lit_u64, aEval_U, splice_nil, splice_zero, splice_step, gset_gset, Int.ofNat_inj, U_junk, U_cells, U_cellOk, ub_and, ub_or, ub_xor, ub_andNot, ub_add, ub_sub, ub_mul, ub_shl, ub_shr, ub_shl', ub_shr', ub_eql, ub_neq, ub_lss, ub_leq, ub_gtr, ub_geq, rc17, c1, c2, c3]
    refine done_q hdom (Kept.refl hdom) ?_ ?_; · rfl
    rw [bad (by omega)]; rfl
  simp (maxSteps := 1000000) (disch := first | assumption | omega | rfl | decide) [↓rules, rules, lit_u64, aEval_U, splice_nil, splice_zero, splice_step, gset_gset, Int.ofNat_inj, U_junk, U_cells, U_cellOk, ub_and, ub_or, ub_xor, ub_andNot, ub_add, ub_sub, ub_mul, ub_shl, ub_shr, ub_shl', ub_shr', ub_eql, ub_neq, ub_lss, ub_leq, ub_gtr, ub_geq, rc17, c1, c2, c3, conv_to_u64 tu3 tu23]
  refine done_q hdom (Kept.refl hdom) ?_ ?_; · rfl
  rw [makeV, if_pos ⟨BitVec.not_le.1 c1, by omega, by omega⟩]; rfl
theorem low16 (x : Int) (h : 0 ≤ x ∧ x < 131072) : bAnd .i64 x 65535 = x % 65536 := by
  obtain ⟨k, rfl⟩ : ∃ k : Nat, x = k := ⟨x.toNat, by omega⟩
  have hk : k < 131072 := by omega
  show IntKind.i64.wrap ((BitVec.ofInt 64 (k : Int) &&& BitVec.ofInt 64 65535 : BitVec 64).toNat : Int) = _
  have e : (BitVec.ofInt 64 (k : Int) &&& BitVec.ofInt 64 65535 : BitVec 64).toNat = k % 65536 := by
    rw [BitVec.toNat_and, BitVec.toNat_ofInt, BitVec.toNat_ofInt]
    rw [show ((k : Int) % ((2 ^ 64 : Nat) : Int)).toNat = k by omega, show ((65535 : Int) % ((2 ^ 64 : Nat) : Int)).toNat = 2 ^ 16 - 1 by decide, Nat.and_two_pow_sub_one_eq_mod]
  rw [e, wrap_i64 (by omega) (by omega)]; omega
def nextV (w x : BitVec 64) : BitVec 64 × Bool := makeV x ((ver w + 1) % 65536)
theorem Next (w x : BitVec 64) (g : AMem) (n : Nat) : FnC Try.prog 18 [U w, U x] g n (fun _ => False) (.tuple #[U (nextV w x).1, .bool (nextV w x).2]) g n := by
  refine fnC_of_rwp t18 hm rfl fun hdom => ?_
  have h2 := ver_lt w
  simp (maxSteps := 1000000) (disch := first | assumption | omega | rfl | decide) [↓rules, rules, lit_u64, aEval_U, splice_nil, splice_zero, splice_step, gset_gset, Int.ofNat_inj, U_junk, U_cells, U_cellOk, ub_and, ub_or, ub_xor, ub_andNot, ub_add, ub_sub, ub_mul, ub_shl, ub_shr, ub_shl', ub_shr', ub_eql, ub_neq, ub_lss, ub_leq, ub_gtr, ub_geq, rc18]
  refine rcall_quiet rfl (Version w g n) ?_
  have hw : IntKind.i64.wrap (ver w + 1) = ver w + 1 := wrap_i64 (by omega) (by omega)
  have e := low16 (ver w + 1) (by omega)
  simp (maxSteps := 1000000) (disch := first | assumption | omega | rfl | decide) [↓rules, rules, lit_u64, aEval_U, splice_nil, splice_zero, splice_step, gset_gset, Int.ofNat_inj, U_junk, U_cells, U_cellOk, ub_and, ub_or, ub_xor, ub_andNot, ub_add, ub_sub, ub_mul, ub_shl, ub_shr, ub_shl', ub_shr', ub_eql, ub_neq, ub_lss, ub_leq, ub_gtr, ub_geq, hw, e]
  refine rcall_quiet rfl (Make x _ g n) ?_
  simp (maxSteps := 1000000) (disch := first | assumption | omega | rfl | decide) [↓rules, rules, lit_u64, aEval_U, splice_nil, splice_zero, splice_step, gset_gset, Int.ofNat_inj, U_junk, U_cells, U_cellOk, ub_and, ub_or, ub_xor, ub_andNot, ub_add, ub_sub, ub_mul, ub_shl, ub_shr, ub_shl', ub_shr', ub_eql, ub_neq, ub_lss, ub_leq, ub_gtr, ub_geq]
  refine done_q hdom (Kept.refl hdom) ?_ ?_ <;> rfl
end Go.Proofs.Ythigpfognkmegaa.F

namespace Go.Proofs.Ythigpfognkmegaa.F
open Go Go.Proofs Go.Proofs.YthigpfognkmegaaAbs
theorem ones_bit (b i : Nat) (hb : b ≤ 64) (hi : i < 64) : ((1#64 <<< b) - 1#64).getLsbD i = decide (i < b) := by
  have e : ((1#64 <<< b) - 1#64).toNat = 2 ^ b - 1 := by
    rw [BitVec.toNat_sub, BitVec.toNat_shiftLeft, Nat.shiftLeft_eq]
    by_cases h : b = 64
    · subst h; decide
    · have h1 : (2 : Nat) ^ b < 2 ^ 64 := Nat.pow_lt_pow_right (by decide) (by omega)
      have h2 : 0 < (2 : Nat) ^ b := Nat.pow_pos (by decide)
      simp only [BitVec.toNat_ofNat]
      have e1 : 1 % 2 ^ 64 * 2 ^ b % 2 ^ 64 = 2 ^ b := by rw [Nat.mod_eq_of_lt (a := 1) (by decide), Nat.one_mul, Nat.mod_eq_of_lt h1]
      rw [e1]; omega
  rw [BitVec.getLsbD, e, Nat.testBit_two_pow_sub_one]
theorem M_bit (p q : Int) (hp : 0 ≤ p) (hq : 0 ≤ q) (hs : p + q ≤ 64) (i : Nat) (hi : i < 64) : (M p q).getLsbD i = decide (p.toNat ≤ i ∧ i < p.toNat + q.toNat) := by
  unfold M
  rw [BitVec.getLsbD_shiftLeft]
  by_cases h : i < p.toNat
  · simp [h, hi]; omega
  · rw [ones_bit _ _ (by omega) (by omega)]
    simp only [hi, h, decide_true, decide_false, Bool.not_false, Bool.true_and, decide_eq_decide]; omega
def okS (f : Int × Int) : Prop := 0 ≤ f.1 ∧ f.1 < 64 ∧ 1 ≤ f.2 ∧ f.2 ≤ 64 - f.1
theorem getF_back (w : BitVec 64) (f : Int × Int) (h : okS f) : getF w f <<< f.1.toNat = w &&& M f.1 f.2 := by
  obtain ⟨h1, h2, h3, h4⟩ := h
  apply BitVec.eq_of_getLsbD_eq
  intro i hi
  rw [getF, BitVec.getLsbD_shiftLeft]
  by_cases h : i < f.1.toNat
  · have := M_bit f.1 f.2 h1 (by omega) (by omega) i hi
    have hz : (M f.1 f.2).getLsbD i = false := by rw [this]; simp; omega
    simp only [hi, h, decide_true, Bool.not_true, Bool.and_false, Bool.false_and, BitVec.getLsbD_and, hz]
  · simp [h, hi, show f.1.toNat + (i - f.1.toNat) = i by omega]
theorem getF_le (w : BitVec 64) (f : Int × Int) : ¬ M f.1 f.2 >>> f.1.toNat < getF w f := by
  rw [BitVec.not_lt, BitVec.le_def, getF, BitVec.toNat_ushiftRight, BitVec.toNat_ushiftRight, BitVec.toNat_and, Nat.shiftRight_eq_div_pow, Nat.shiftRight_eq_div_pow]
  exact Nat.div_le_div_right Nat.and_le_right
def orF : List (Int × Int) → BitVec 64
  | [] => 0#64
  | f :: fs => M f.1 f.2 ||| orF fs
theorem allF_val : ∀ (fs : List (Int × Int)) (w : BitVec 64), (allF fs w).2 = true → (allF fs w).1 = w ||| orF fs
  | [], w, h => by simp [allF, orF]
  | f :: fs, w, h => by
    rw [allF] at h ⊢
    split at h
    · rename_i ho
      rw [if_pos ho, allF_val fs _ h, orF, BitVec.or_assoc]
    · cases h
theorem putF_gets (w : BitVec 64) : ∀ (fs : List (Int × Int)) (acc : BitVec 64), (∀ f ∈ fs, okS f) → putF fs (fs.map (getF w)) acc = (acc ||| (w &&& orF fs), true)
  | [], acc, h => by simp [putF, orF]
  | f :: fs, acc, h => by
    rw [List.map_cons, putF, if_neg (getF_le w f), putF_gets w fs _ (fun f hf => h f (by simp [hf])), getF_back w f (h f (by simp)), orF]
    congr 1
    apply BitVec.eq_of_getLsbD_eq
    intro i hi
    simp only [BitVec.getLsbD_or, BitVec.getLsbD_and, Bool.and_or_distrib_left, Bool.or_assoc]
theorem orF_mem : ∀ (fs : List (Int × Int)) (f : Int × Int), f ∈ fs → orF fs &&& M f.1 f.2 = M f.1 f.2
  | g :: fs, f, h => by
    apply BitVec.eq_of_getLsbD_eq
    intro i hi
    cases h with
    | head => simp only [orF, BitVec.getLsbD_or, BitVec.getLsbD_and]; cases (M g.1 g.2).getLsbD i <;> simp
    | tail _ h =>
      have := congrArg (fun x => BitVec.getLsbD x i) (orF_mem fs f h)
      simp only [BitVec.getLsbD_and] at this
      simp only [orF, BitVec.getLsbD_or, BitVec.getLsbD_and]
      cases h1 : (M f.1 f.2).getLsbD i <;> simp_all
/-- All fields' bits. -/
def A (fs : List (Int × Int)) : BitVec 64 := (allF fs 0#64).1
theorem A_eq {fs : List (Int × Int)} (h : goodF fs = true) : A fs = orF fs := by rw [A, allF_val fs _ h]; simp
theorem puts_gets (w : BitVec 64) {fs : List (Int × Int)} (h : goodF fs = true) : putsF fs (getsF w fs) = (w &&& A fs, true) := by
  rw [putsF, getsF, if_pos h, if_pos ⟨h, by simp⟩, putF_gets w fs _ (allF_good fs _ h), A_eq h]; simp
theorem gets_and (w : BitVec 64) {fs : List (Int × Int)} (h : goodF fs = true) : getsF (w &&& A fs) fs = getsF w fs := by
  rw [getsF, getsF, if_pos h, if_pos h]
  apply List.map_congr_left
  intro f hf
  rw [getF, getF, BitVec.and_assoc, A_eq h, orF_mem fs f hf]
theorem split_or (w a : BitVec 64) : w &&& a ||| w &&& ~~~ a = w := by
  apply BitVec.eq_of_getLsbD_eq
  intro i hi
  simp only [BitVec.getLsbD_or, BitVec.getLsbD_and, BitVec.getLsbD_not, hi, decide_true, Bool.true_and]
  cases w.getLsbD i <;> cases a.getLsbD i <;> rfl
theorem split_and (w a : BitVec 64) : w &&& a &&& (w &&& ~~~ a) = 0#64 := by
  apply BitVec.eq_of_getLsbD_eq
  intro i hi
  simp only [BitVec.getLsbD_and, BitVec.getLsbD_not, hi, decide_true, Bool.true_and, BitVec.getLsbD_zero]
  cases w.getLsbD i <;> cases a.getLsbD i <;> rfl
theorem split_not (w a : BitVec 64) : w &&& a &&& ~~~ a = 0#64 := by
  apply BitVec.eq_of_getLsbD_eq
  intro i hi
  simp only [BitVec.getLsbD_and, BitVec.getLsbD_not, hi, decide_true, Bool.true_and, BitVec.getLsbD_zero]
  cases w.getLsbD i <;> cases a.getLsbD i <;> rfl
theorem awake4_run : xfn Try.prog tab 100 20 11 [] (fun _ => none) 0 = some ⟨.bool true, fun _ => none, 0, 0, true⟩ := by kernel_rfl
theorem awake (g : AMem) (n : Nat) : FnC Try.prog 11 [] g n (fun _ => False) (.bool true) g n :=
  FnC.closed (xfn_ok hm tabOk 100 20 _ _ _ _ _ awake4_run).2.1 rfl rfl g n
theorem TagBack (v : Value) (fs : List (Int × Int)) (w : BitVec 64) (g : AMem) (n : Nat) (_ : ∀ i, g i ≠ none → i < n) (hfo : ∀ f ∈ fs, fOk f) (hv : rdF g v fs) : FnC Try.prog 3 [v, U w] g n (fun _ => False) (.bool true) g n := by
  refine fnC_of_rwp t3 hm rfl fun hdom => ?_
  obtain ⟨a, e', hvf⟩ := hv.form
  simp (maxSteps := 1000000) (disch := first | assumption | omega | rfl | decide) [↓rules, rules, lit_u64, aEval_U, splice_nil, splice_zero, splice_step, gset_gset, Int.ofNat_inj, U_junk, U_cells, U_cellOk, ub_and, ub_or, ub_xor, ub_andNot, ub_add, ub_sub, ub_mul, ub_shl, ub_shr, ub_shl', ub_shr', ub_eql, ub_neq, ub_lss, ub_leq, ub_gtr, ub_geq, rc3]
  refine rcall_quiet rfl (awake g n) ?_
  by_cases c1 : (70 : Int) < fs.length
  · simp (maxSteps := 1000000) (disch := first | assumption | omega | rfl | decide) [↓rules, rules, lit_u64, aEval_U, splice_nil, splice_zero, splice_step, gset_gset, Int.ofNat_inj, U_junk, U_cells, U_cellOk, ub_and, ub_or, ub_xor, ub_andNot, ub_add, ub_sub, ub_mul, ub_shl, ub_shr, ub_shl', ub_shr', ub_eql, ub_neq, ub_lss, ub_leq, ub_gtr, ub_geq, hvf, tu22, c1]
    refine done_q hdom (Kept.refl hdom) ?_ ?_ <;> rfl
  simp (maxSteps := 1000000) (disch := first | assumption | omega | rfl | decide) [↓rules, rules, lit_u64, aEval_U, splice_nil, splice_zero, splice_step, gset_gset, Int.ofNat_inj, U_junk, U_cells, U_cellOk, ub_and, ub_or, ub_xor, ub_andNot, ub_add, ub_sub, ub_mul, ub_shl, ub_shr, ub_shl', ub_shr', ub_eql, ub_neq, ub_lss, ub_leq, ub_gtr, ub_geq, hvf, tu22, c1]
  rw [← hvf]
  have hl : fs.length < 4611686018427387904 := by omega
  refine rcall_quiet rfl (Good v fs g n hl hfo hv) ?_
  cases c : goodF fs
  · simp (maxSteps := 1000000) (disch := first | assumption | omega | rfl | decide) [↓rules, rules, lit_u64, aEval_U, splice_nil, splice_zero, splice_step, gset_gset, Int.ofNat_inj, U_junk, U_cells, U_cellOk, ub_and, ub_or, ub_xor, ub_andNot, ub_add, ub_sub, ub_mul, ub_shl, ub_shr, ub_shl', ub_shr', ub_eql, ub_neq, ub_lss, ub_leq, ub_gtr, ub_geq]
    refine done_q hdom (Kept.refl hdom) ?_ ?_ <;> rfl
  simp (maxSteps := 1000000) (disch := first | assumption | omega | rfl | decide) [↓rules, rules, lit_u64, aEval_U, splice_nil, splice_zero, splice_step, gset_gset, Int.ofNat_inj, U_junk, U_cells, U_cellOk, ub_and, ub_or, ub_xor, ub_andNot, ub_add, ub_sub, ub_mul, ub_shl, ub_shr, ub_shl', ub_shr', ub_eql, ub_neq, ub_lss, ub_leq, ub_gtr, ub_geq]
  refine rcall_spec (Get w v fs g n hdom (by omega) hfo hv) rfl (fun _ h => h.elim) rfl fun r g1 n1 ⟨hr, k1⟩ => ?_
  have hg : (getsF w fs).length = fs.length := by rw [getsF, if_pos c]; simp
  simp (maxSteps := 1000000) (disch := first | assumption | omega | rfl | decide) [↓rules, rules, lit_u64, aEval_U, splice_nil, splice_zero, splice_step, gset_gset, Int.ofNat_inj, U_junk, U_cells, U_cellOk, ub_and, ub_or, ub_xor, ub_andNot, ub_add, ub_sub, ub_mul, ub_shl, ub_shr, ub_shl', ub_shr', ub_eql, ub_neq, ub_lss, ub_leq, ub_gtr, ub_geq]
  refine rcall_quiet rfl (Put v r fs (getsF w fs) g1 n1 (by omega) (by omega) hfo (hv.ext (k1.ext hdom)) hr) ?_
  rw [puts_gets w c]
  simp (maxSteps := 1000000) (disch := first | assumption | omega | rfl | decide) [↓rules, rules, lit_u64, aEval_U, splice_nil, splice_zero, splice_step, gset_gset, Int.ofNat_inj, U_junk, U_cells, U_cellOk, ub_and, ub_or, ub_xor, ub_andNot, ub_add, ub_sub, ub_mul, ub_shl, ub_shr, ub_shl', ub_shr', ub_eql, ub_neq, ub_lss, ub_leq, ub_gtr, ub_geq]
  refine rcall_quiet rfl (Rest w v fs g1 n1 hl hfo (hv.ext (k1.ext hdom))) ?_
  have e1 := split_or w (A fs); have e2 := split_and w (A fs); have e3 := split_not w (A fs)
  rw [show (allF fs 0#64).1 = A fs from rfl]
  simp (maxSteps := 1000000) (disch := first | assumption | omega | rfl | decide) [↓rules, rules, lit_u64, aEval_U, splice_nil, splice_zero, splice_step, gset_gset, Int.ofNat_inj, U_junk, U_cells, U_cellOk, ub_and, ub_or, ub_xor, ub_andNot, ub_add, ub_sub, ub_mul, ub_shl, ub_shr, ub_shl', ub_shr', ub_eql, ub_neq, ub_lss, ub_leq, ub_gtr, ub_geq, e1, e2, e3]
  refine rcall_spec (Get (w &&& A fs) v fs g1 n1 k1.dom (by omega) hfo (hv.ext (k1.ext hdom))) rfl (fun _ h => h.elim) rfl fun r2 g2 n2 ⟨hr2, k2⟩ => ?_
  rw [gets_and w c] at hr2
  simp (maxSteps := 1000000) (disch := first | assumption | omega | rfl | decide) [↓rules, rules, lit_u64, aEval_U, splice_nil, splice_zero, splice_step, gset_gset, Int.ofNat_inj, U_junk, U_cells, U_cellOk, ub_and, ub_or, ub_xor, ub_andNot, ub_add, ub_sub, ub_mul, ub_shl, ub_shr, ub_shl', ub_shr', ub_eql, ub_neq, ub_lss, ub_leq, ub_gtr, ub_geq]
  refine rcall_quiet rfl (words r2 r _ _ g2 n2 (by omega) (by omega) hr2 (hr.ext (k2.ext k1.dom))) ?_
  simp (maxSteps := 1000000) (disch := first | assumption | omega | rfl | decide) [↓rules, rules, lit_u64, aEval_U, splice_nil, splice_zero, splice_step, gset_gset, Int.ofNat_inj, U_junk, U_cells, U_cellOk, ub_and, ub_or, ub_xor, ub_andNot, ub_add, ub_sub, ub_mul, ub_shl, ub_shr, ub_shl', ub_shr', ub_eql, ub_neq, ub_lss, ub_leq, ub_gtr, ub_geq]
  refine rcall_quiet rfl (Rest (w &&& A fs) v fs g2 n2 hl hfo ((hv.ext (k1.ext hdom)).ext (k2.ext k1.dom))) ?_
  rw [show (allF fs 0#64).1 = A fs from rfl]
  simp (maxSteps := 1000000) (disch := first | assumption | omega | rfl | decide) [↓rules, rules, lit_u64, aEval_U, splice_nil, splice_zero, splice_step, gset_gset, Int.ofNat_inj, U_junk, U_cells, U_cellOk, ub_and, ub_or, ub_xor, ub_andNot, ub_add, ub_sub, ub_mul, ub_shl, ub_shr, ub_shl', ub_shr', ub_eql, ub_neq, ub_lss, ub_leq, ub_gtr, ub_geq, e3]
  refine done_q hdom (k1.trans k2) ?_ ?_ <;> rfl
theorem decF {H : Type} {enc : TypeId × Value → H} {W : World} : ∀ c, Cells enc Try.prog W [.flat (.int .i64), .flat (.int .i64)] c → ∃ x : Int × Int, encF x = c ∧ fOk x := fun c h => by
  obtain ⟨a, b, rfl, ha, hb⟩ := h.flats2
  obtain ⟨x, rfl, h1, h2⟩ := LK.i64 ha
  obtain ⟨y, rfl, h3, h4⟩ := LK.i64 hb
  exact ⟨(x, y), rfl, h1, h2, h3, h4⟩
theorem decW {H : Type} {enc : TypeId × Value → H} {W : World} : ∀ c, Cells enc Try.prog W [.flat (.int .u64)] c → ∃ x : BitVec 64, [U x] = c ∧ True := fun c h => by
  obtain ⟨a, rfl, ha⟩ := h.flats1
  obtain ⟨x, rfl⟩ := LK.u64 ha
  exact ⟨x, rfl, trivial⟩
end Go.Proofs.Ythigpfognkmegaa.F

namespace Go.Proofs.Ythigpfognkmegaa.F
open Go Go.Proofs Go.Proofs.YthigpfognkmegaaAbs
theorem bit_high {x : BitVec 64} {k i : Nat} (h : x.toNat < 2 ^ k) (hi : k ≤ i) : x.getLsbD i = false := by
  rw [BitVec.getLsbD]
  exact Nat.testBit_lt_two_pow (Nat.lt_of_lt_of_le h (Nat.pow_le_pow_right (by decide) hi))
theorem ofInt_small {v : Int} (h1 : 0 ≤ v) (h2 : v < 18446744073709551616) : (BitVec.ofInt 64 v).toNat = v.toNat := by
  rw [BitVec.toNat_ofInt]; omega
theorem low48 (i : Nat) (hi : i < 64) : (281474976710655#64).getLsbD i = decide (i < 48) := by
  have e : (281474976710655#64).toNat = 2 ^ 48 - 1 := by decide
  rw [BitVec.getLsbD, e, Nat.testBit_two_pow_sub_one]
theorem made_value {x y : BitVec 64} (hx : x.toNat < 2 ^ 48) : (x ||| y <<< 48) &&& 281474976710655#64 = x := by
  apply BitVec.eq_of_getLsbD_eq
  intro i hi
  rw [BitVec.getLsbD_and, BitVec.getLsbD_or, BitVec.getLsbD_shiftLeft, low48 i hi]
  by_cases h : i < 48
  · simp [h]
  · simp [h, bit_high hx (Nat.le_of_not_lt h)]
theorem made_ver {x y : BitVec 64} (hx : x.toNat < 2 ^ 48) (hy : y.toNat < 2 ^ 16) : (x ||| y <<< 48) >>> 48 = y := by
  apply BitVec.eq_of_getLsbD_eq
  intro i hi
  rw [BitVec.getLsbD_ushiftRight, BitVec.getLsbD_or, BitVec.getLsbD_shiftLeft, bit_high hx (by omega)]
  by_cases h : i < 16
  · simp [show 48 + i < 64 by omega]
  · simp [bit_high hy (Nat.le_of_not_lt h)]
theorem makeV_ok {x : BitVec 64} {v : Int} (hx : x < 281474976710656#64) (h1 : 0 ≤ v) (h2 : v ≤ 65535) : (makeV x v).2 = true ∧ (makeV x v).1 &&& 281474976710655#64 = x ∧ ver (makeV x v).1 = v := by
  rw [makeV, if_pos ⟨hx, h1, h2⟩]
  have hx' : x.toNat < 2 ^ 48 := by rw [BitVec.lt_def] at hx; exact hx
  have e := ofInt_small h1 (by omega)
  refine ⟨rfl, made_value hx', ?_⟩
  show uI ((x ||| BitVec.ofInt 64 v <<< 48) >>> 48) = v
  rw [made_ver hx' (by omega), uI, e]; omega
theorem makeV_no {x : BitVec 64} {v : Int} (h : (makeV x v).2 = true) : x < 281474976710656#64 ∧ 0 ≤ v ∧ v ≤ 65535 := by
  apply Classical.byContradiction; intro hn
  rw [makeV, if_neg hn] at h; cases h
theorem TagVersions (x : BitVec 64) (v m : Int) (g : AMem) (n : Nat) (hdom : ∀ i, g i ≠ none → i < n) (_ : -9223372036854775808 ≤ v) (_ : v ≤ 9223372036854775807) (hm1 : -9223372036854775808 ≤ m) (hm2 : m ≤ 9223372036854775807) : FnC Try.prog 5 [U x, .int .i64 v, .int .i64 m] g n (fun _ => False) (.bool true) g n := by
  refine fnC_of_rwp t5 hm rfl fun hdom => ?_
  simp (maxSteps := 1000000) (disch := first | assumption | omega | rfl | decide) [↓rules, rules, lit_u64, aEval_U, splice_nil, splice_zero, splice_step, gset_gset, Int.ofNat_inj, U_junk, U_cells, U_cellOk, ub_and, ub_or, ub_xor, ub_andNot, ub_add, ub_sub, ub_mul, ub_shl, ub_shr, ub_shl', ub_shr', ub_eql, ub_neq, ub_lss, ub_leq, ub_gtr, ub_geq, rc5]
  refine rcall_quiet rfl (awake g n) ?_
  simp (maxSteps := 1000000) (disch := first | assumption | omega | rfl | decide) [↓rules, rules, lit_u64, aEval_U, splice_nil, splice_zero, splice_step, gset_gset, Int.ofNat_inj, U_junk, U_cells, U_cellOk, ub_and, ub_or, ub_xor, ub_andNot, ub_add, ub_sub, ub_mul, ub_shl, ub_shr, ub_shl', ub_shr', ub_eql, ub_neq, ub_lss, ub_leq, ub_gtr, ub_geq]
  refine rcall_quiet rfl (Make x v g n) ?_
  cases c : (makeV x v).2
  · simp (maxSteps := 1000000) (disch := first | assumption | omega | rfl | decide) [↓rules, rules, lit_u64, aEval_U, splice_nil, splice_zero, splice_step, gset_gset, Int.ofNat_inj, U_junk, U_cells, U_cellOk, ub_and, ub_or, ub_xor, ub_andNot, ub_add, ub_sub, ub_mul, ub_shl, ub_shr, ub_shl', ub_shr', ub_eql, ub_neq, ub_lss, ub_leq, ub_gtr, ub_geq]
    refine done_q hdom (Kept.refl hdom) ?_ ?_ <;> rfl
  obtain ⟨hx, hv1, hv2⟩ := makeV_no c
  obtain ⟨_, c3, c4⟩ := makeV_ok hx hv1 hv2
  by_cases c1 : m < 0
  · simp (maxSteps := 1000000) (disch := first | assumption | omega | rfl | decide) [↓rules, rules, lit_u64, aEval_U, splice_nil, splice_zero, splice_step, gset_gset, Int.ofNat_inj, U_junk, U_cells, U_cellOk, ub_and, ub_or, ub_xor, ub_andNot, ub_add, ub_sub, ub_mul, ub_shl, ub_shr, ub_shl', ub_shr', ub_eql, ub_neq, ub_lss, ub_leq, ub_gtr, ub_geq, c1]
    refine done_q hdom (Kept.refl hdom) ?_ ?_ <;> rfl
  by_cases c2 : 70 < m
  · simp (maxSteps := 1000000) (disch := first | assumption | omega | rfl | decide) [↓rules, rules, lit_u64, aEval_U, splice_nil, splice_zero, splice_step, gset_gset, Int.ofNat_inj, U_junk, U_cells, U_cellOk, ub_and, ub_or, ub_xor, ub_andNot, ub_add, ub_sub, ub_mul, ub_shl, ub_shr, ub_shl', ub_shr', ub_eql, ub_neq, ub_lss, ub_leq, ub_gtr, ub_geq, c1, c2]
    refine done_q hdom (Kept.refl hdom) ?_ ?_ <;> rfl
  simp (maxSteps := 1000000) (disch := first | assumption | omega | rfl | decide) [↓rules, rules, lit_u64, aEval_U, splice_nil, splice_zero, splice_step, gset_gset, Int.ofNat_inj, U_junk, U_cells, U_cellOk, ub_and, ub_or, ub_xor, ub_andNot, ub_add, ub_sub, ub_mul, ub_shl, ub_shr, ub_shl', ub_shr', ub_eql, ub_neq, ub_lss, ub_leq, ub_gtr, ub_geq, c1, c2]
  refine rwp_loop (fun k l g' n' => ∃ (i : Nat) (w : BitVec 64), k = m.toNat - i ∧ i ≤ m.toNat ∧ g' = g ∧ n' = n ∧ ver w = (v + i) % 65536 ∧ l = [(1, .int .i64 v), (2, .int .i64 m), (7, U w), (9, .int .i64 i)]) ?_ (k := m.toNat) ?_
  · rintro k l g' n' ⟨i, w, rfl, hi, rfl, rfl, hw, rfl⟩
    simp (maxSteps := 1000000) (disch := first | assumption | omega | rfl | decide) [↓rules, rules, lit_u64, aEval_U, splice_nil, splice_zero, splice_step, gset_gset, Int.ofNat_inj, U_junk, U_cells, U_cellOk, ub_and, ub_or, ub_xor, ub_andNot, ub_add, ub_sub, ub_mul, ub_shl, ub_shr, ub_shl', ub_shr', ub_eql, ub_neq, ub_lss, ub_leq, ub_gtr, ub_geq, rc5l0]
    refine rcond_dec (fun hlt => ?_) (fun hlt => ?_)
    · have hi70 : i < 70 := by omega
      have hlo : BitVec.ofNat 64 i < 281474976710656#64 := by rw [BitVec.lt_def]; simp; omega
      obtain ⟨f1, f2, f3⟩ := makeV_ok (x := BitVec.ofNat 64 i) (v := (ver w + 1) % 65536) hlo (by omega) (by omega)
      simp (maxSteps := 1000000) (disch := first | assumption | omega | rfl | decide) [↓rules, rules, lit_u64, aEval_U, splice_nil, splice_zero, splice_step, gset_gset, Int.ofNat_inj, U_junk, U_cells, U_cellOk, ub_and, ub_or, ub_xor, ub_andNot, ub_add, ub_sub, ub_mul, ub_shl, ub_shr, ub_shl', ub_shr', ub_eql, ub_neq, ub_lss, ub_leq, ub_gtr, ub_geq, conv_to_u64 tu3 tu23]
      refine rcall_quiet rfl (Next w _ g' n') ?_
      rw [nextV]
      simp (maxSteps := 1000000) (disch := first | assumption | omega | rfl | decide) [↓rules, rules, lit_u64, aEval_U, splice_nil, splice_zero, splice_step, gset_gset, Int.ofNat_inj, U_junk, U_cells, U_cellOk, ub_and, ub_or, ub_xor, ub_andNot, ub_add, ub_sub, ub_mul, ub_shl, ub_shr, ub_shl', ub_shr', ub_eql, ub_neq, ub_lss, ub_leq, ub_gtr, ub_geq, f1]
      refine rcall_quiet rfl (Value' _ g' n') ?_
      rw [f2]
      simp (maxSteps := 1000000) (disch := first | assumption | omega | rfl | decide) [↓rules, rules, lit_u64, aEval_U, splice_nil, splice_zero, splice_step, gset_gset, Int.ofNat_inj, U_junk, U_cells, U_cellOk, ub_and, ub_or, ub_xor, ub_andNot, ub_add, ub_sub, ub_mul, ub_shl, ub_shr, ub_shl', ub_shr', ub_eql, ub_neq, ub_lss, ub_leq, ub_gtr, ub_geq, conv_to_u64 tu3 tu23, wrap_i64]
      refine ⟨m.toNat - (i + 1), by omega, i + 1, rfl, by omega, ?_⟩
      refine ⟨_, ?_, rfl, ?_⟩
      · rw [f3, hw]; omega
      · simp [wrap_i64 (show -9223372036854775808 ≤ (i : Int) + 1 by omega) (by omega)]
    · have e : (i : Int) = m := by omega
      refine rcall_quiet rfl (Version w g' n') ?_
      have e1 : IntKind.i64.wrap (v + m) = v + m := wrap_i64 (by omega) (by omega)
      simp (maxSteps := 1000000) (disch := first | assumption | omega | rfl | decide) [↓rules, rules, lit_u64, aEval_U, splice_nil, splice_zero, splice_step, gset_gset, Int.ofNat_inj, U_junk, U_cells, U_cellOk, ub_and, ub_or, ub_xor, ub_andNot, ub_add, ub_sub, ub_mul, ub_shl, ub_shr, ub_shl', ub_shr', ub_eql, ub_neq, ub_lss, ub_leq, ub_gtr, ub_geq, bin_rem, e1]
      refine done_q hdom (Kept.refl hdom) ?_ ?_; · rfl
      rw [show ver w = (v + m) % 65536 by rw [hw, e], Int.tmod_eq_emod_of_nonneg (show 0 ≤ v + m by omega)]
      simp only [eq_self, decide_true]; rfl
  · exact ⟨0, _, by simp, by simp, rfl, rfl, by rw [c4]; omega, by rfl⟩
end Go.Proofs.Ythigpfognkmegaa.F

namespace Go.Proofs.Ythigpfognkmegaa.F
open Go Go.Proofs Go.Proofs.YthigpfognkmegaaAbs
theorem ones_eq (p q : Int) (hp : 0 ≤ p) (hq : 0 ≤ q) (hs : p + q ≤ 64) : M p q >>> p.toNat = (1#64 <<< q.toNat) - 1#64 := by
  apply BitVec.eq_of_getLsbD_eq
  intro i hi
  rw [BitVec.getLsbD_ushiftRight, ones_bit _ _ (by omega) hi]
  by_cases h : p.toNat + i < 64
  · rw [M_bit p q hp hq hs _ h]; simp
  · rw [BitVec.getLsbD_of_ge _ _ (by omega)]; simp; omega
theorem le_ones (x : BitVec 64) (b : Nat) (hb : b ≤ 64) : ¬ ((1#64 <<< b) - 1#64) < x ↔ x >>> b = 0#64 := by
  rw [BitVec.not_lt]
  have hx := x.isLt
  have e : ((1#64 <<< b) - 1#64).toNat = 2 ^ b - 1 := by
    rw [BitVec.toNat_sub, BitVec.toNat_shiftLeft, Nat.shiftLeft_eq]
    by_cases h : b = 64
    · subst h; decide
    · have h1 : (2 : Nat) ^ b < 2 ^ 64 := Nat.pow_lt_pow_right (by decide) (by omega)
      have h2 : 0 < (2 : Nat) ^ b := Nat.pow_pos (by decide)
      simp only [BitVec.toNat_ofNat]
      have e1 : 1 % 2 ^ 64 * 2 ^ b % 2 ^ 64 = 2 ^ b := by rw [Nat.mod_eq_of_lt (a := 1) (by decide), Nat.one_mul, Nat.mod_eq_of_lt h1]
      rw [e1]; omega
  have h2 : 0 < (2 : Nat) ^ b := Nat.pow_pos (by decide)
  rw [BitVec.le_def, e]
  constructor
  · intro h
    apply BitVec.eq_of_toNat_eq
    rw [BitVec.toNat_ushiftRight, Nat.shiftRight_eq_div_pow]
    exact Nat.div_eq_of_lt (by omega)
  · intro h
    have := congrArg BitVec.toNat h
    rw [BitVec.toNat_ushiftRight, Nat.shiftRight_eq_div_pow] at this
    have h3 : x.toNat / 2 ^ b = 0 := this
    rcases Nat.div_eq_zero_iff.1 h3 with h4 | h4
    · omega
    · omega
def okX (f : Int × Int) (x : BitVec 64) : Prop := ¬ M f.1 f.2 >>> f.1.toNat < x
theorem okX_iff {f : Int × Int} (h : okS f) (x : BitVec 64) : okX f x ↔ x >>> f.2.toNat = 0#64 := by
  obtain ⟨h1, h2, h3, h4⟩ := h
  rw [okX, ones_eq f.1 f.2 h1 (by omega) (by omega), le_ones x _ (by omega)]
theorem bit_zero {x : BitVec 64} {b i : Nat} (h : x >>> b = 0#64) (hi : b ≤ i) : x.getLsbD i = false := by
  have := congrArg (fun y => BitVec.getLsbD y (i - b)) h
  simp only [BitVec.getLsbD_ushiftRight, BitVec.getLsbD_zero] at this
  rw [show b + (i - b) = i by omega] at this
  exact this
theorem in_mask {f : Int × Int} (h : okS f) {x : BitVec 64} (hx : okX f x) : x <<< f.1.toNat &&& M f.1 f.2 = x <<< f.1.toNat := by
  have hz := (okX_iff h x).1 hx
  obtain ⟨h1, h2, h3, h4⟩ := h
  apply BitVec.eq_of_getLsbD_eq
  intro i hi
  rw [BitVec.getLsbD_and, BitVec.getLsbD_shiftLeft, M_bit _ _ h1 (by omega) (by omega) i hi]
  by_cases c : f.1.toNat ≤ i ∧ i < f.1.toNat + f.2.toNat
  · simp [c]
  · by_cases c1 : i < f.1.toNat
    · simp [c1]
    · rw [bit_zero hz (i := i - f.1.toNat) (by omega)]; simp
theorem shl_shr {f : Int × Int} (h : okS f) {x : BitVec 64} (hx : okX f x) : (x <<< f.1.toNat) >>> f.1.toNat = x := by
  have hz := (okX_iff h x).1 hx
  obtain ⟨h1, h2, h3, h4⟩ := h
  apply BitVec.eq_of_getLsbD_eq
  intro i hi
  rw [BitVec.getLsbD_ushiftRight, BitVec.getLsbD_shiftLeft]
  by_cases c : f.1.toNat + i < 64
  · simp [c]; intro _; omega
  · rw [bit_zero hz (i := i) (by omega)]; simp [c]
theorem allF_apart : ∀ (fs : List (Int × Int)) (m : BitVec 64), (allF fs m).2 = true → ∀ f ∈ fs, m &&& M f.1 f.2 = 0#64
  | [], m, h, f, hf => by cases hf
  | x :: fs, m, h, f, hf => by
    rw [allF] at h
    split at h
    · rename_i ho
      cases hf with
      | head => exact ho.2.2.2.2
      | tail _ hf =>
        have := allF_apart fs _ h f hf
        apply BitVec.eq_of_getLsbD_eq
        intro i hi
        have h2 := congrArg (fun y => BitVec.getLsbD y i) this
        simp only [BitVec.getLsbD_and, BitVec.getLsbD_or, BitVec.getLsbD_zero] at h2 ⊢
        cases h3 : m.getLsbD i <;> simp_all
    · cases h
theorem putF_ok : ∀ (fs : List (Int × Int)) (xs : List (BitVec 64)) (acc m : BitVec 64), (allF fs m).2 = true → fs.length = xs.length → (∀ i (h : i < fs.length) (h' : i < xs.length), okX fs[i] xs[i]) →
    (putF fs xs acc).2 = true ∧ ∃ P, (putF fs xs acc).1 = acc ||| P ∧ P &&& m = 0#64 ∧ P &&& ~~~ orF fs = 0#64 ∧ fs.map (getF P) = xs
  | [], [], acc, m, h, hl, hx => ⟨rfl, 0#64, by simp [putF], by simp, by simp, rfl⟩
  | [], _ :: _, acc, m, h, hl, hx => by cases hl
  | _ :: _, [], acc, m, h, hl, hx => by cases hl
  | f :: fs, x :: xs, acc, m, h, hl, hx => by
    have hok := allF_good _ _ h f (by simp)
    have hap := allF_apart _ _ h f (by simp)
    have h0 : okX f x := hx 0 (by simp) (by simp)
    rw [allF] at h
    split at h
    case isFalse => cases h
    obtain ⟨i1, P, i2, i3, i4, i5⟩ := putF_ok fs xs (acc ||| x <<< f.1.toNat) (m ||| M f.1 f.2) h (by simpa using hl) (fun i a b => hx (i + 1) (by simpa using a) (by simpa using b))
    have hin := in_mask hok h0
    have hbits : ∀ i, (x <<< f.1.toNat).getLsbD i = true → (M f.1 f.2).getLsbD i = true := fun i hb => by
      have := congrArg (fun y => BitVec.getLsbD y i) hin
      simp only [BitVec.getLsbD_and] at this
      rw [hb] at this; simpa using this
    have hfs := allF_apart fs _ h
    rw [putF, if_neg h0]
    refine ⟨i1, x <<< f.1.toNat ||| P, by rw [i2, BitVec.or_assoc], ?_, ?_, ?_⟩
    · apply BitVec.eq_of_getLsbD_eq
      intro i hi
      have a1 := congrArg (fun y => BitVec.getLsbD y i) i3
      have a2 := congrArg (fun y => BitVec.getLsbD y i) hap
      have a3 := hbits i
      simp only [BitVec.getLsbD_and, BitVec.getLsbD_or, BitVec.getLsbD_zero] at a1 a2 ⊢
      cases h1 : m.getLsbD i <;> cases h2 : (x <<< f.1.toNat).getLsbD i <;> simp_all
    · apply BitVec.eq_of_getLsbD_eq
      intro i hi
      have a1 := congrArg (fun y => BitVec.getLsbD y i) i4
      have a3 := hbits i
      simp only [orF, BitVec.getLsbD_and, BitVec.getLsbD_or, BitVec.getLsbD_not, BitVec.getLsbD_zero, hi, decide_true, Bool.true_and] at a1 ⊢
      cases h1 : (M f.1 f.2).getLsbD i <;> cases h2 : (x <<< f.1.toNat).getLsbD i <;> simp_all
    · rw [List.map_cons]
      congr 1
      · have e : (x <<< f.1.toNat ||| P) &&& M f.1 f.2 = x <<< f.1.toNat := by
          apply BitVec.eq_of_getLsbD_eq
          intro i hi
          have a1 := congrArg (fun y => BitVec.getLsbD y i) i3
          have a3 := hbits i
          simp only [BitVec.getLsbD_and, BitVec.getLsbD_or, BitVec.getLsbD_zero] at a1 ⊢
          cases h1 : (M f.1 f.2).getLsbD i <;> cases h2 : (x <<< f.1.toNat).getLsbD i <;> simp_all
        rw [getF, e, shl_shr hok h0]
      · rw [← i5]
        apply List.map_congr_left
        intro f' hf'
        have e : (x <<< f.1.toNat ||| P) &&& M f'.1 f'.2 = P &&& M f'.1 f'.2 := by
          apply BitVec.eq_of_getLsbD_eq
          intro i hi
          have a1 := congrArg (fun y => BitVec.getLsbD y i) (hfs f' hf')
          have a3 := hbits i
          simp only [BitVec.getLsbD_and, BitVec.getLsbD_or, BitVec.getLsbD_zero] at a1 ⊢
          cases h1 : (M f.1 f.2).getLsbD i <;> cases h2 : (x <<< f.1.toNat).getLsbD i <;> simp_all
        rw [getF, getF, e]
theorem putF_no : ∀ (fs : List (Int × Int)) (xs : List (BitVec 64)) (acc : BitVec 64), fs.length = xs.length → ¬ (∀ i (h : i < fs.length) (h' : i < xs.length), okX fs[i] xs[i]) → putF fs xs acc = (0#64, false)
  | [], [], acc, hl, hx => absurd (fun i h => absurd h (by simp)) hx
  | [], _ :: _, acc, hl, hx => by cases hl
  | _ :: _, [], acc, hl, hx => by cases hl
  | f :: fs, x :: xs, acc, hl, hx => by
    rw [putF]
    by_cases h0 : M f.1 f.2 >>> f.1.toNat < x
    · rw [if_pos h0]
    · rw [if_neg h0]
      refine putF_no fs xs _ (by simpa using hl) fun h => hx fun i a b => ?_
      cases i with
      | zero => exact h0
      | succ i => exact h i (by simpa using a) (by simpa using b)
theorem gets_okX (w : BitVec 64) (fs : List (Int × Int)) (i : Nat) (h : i < fs.length) : okX fs[i] (getF w fs[i]) := getF_le w _
/-- Put among a word's other bits, it is told. -/
theorem gets_put {fs : List (Int × Int)} {P w : BitVec 64} (hP : P &&& ~~~ orF fs = 0#64) : fs.map (getF (P ||| (w &&& ~~~ orF fs))) = fs.map (getF P) := by
  apply List.map_congr_left
  intro f hf
  have e : (P ||| (w &&& ~~~ orF fs)) &&& M f.1 f.2 = P &&& M f.1 f.2 := by
    apply BitVec.eq_of_getLsbD_eq
    intro i hi
    have a1 := congrArg (fun y => BitVec.getLsbD y i) (orF_mem fs f hf)
    simp only [BitVec.getLsbD_and, BitVec.getLsbD_or, BitVec.getLsbD_not, hi, decide_true, Bool.true_and] at a1 ⊢
    cases h1 : (M f.1 f.2).getLsbD i <;> simp_all
  rw [getF, getF, e]
end Go.Proofs.Ythigpfognkmegaa.F

namespace Go.Proofs.Ythigpfognkmegaa.F
open Go Go.Proofs Go.Proofs.YthigpfognkmegaaAbs
theorem set_plain {fs : List (Int × Int)} (c : goodF fs = true) (w x : BitVec 64) {i : Nat} (hi : i < fs.length) :
    ((putsF fs ((getsF w fs).set i x)).2 = false → fs[i].2 < 64 ∧ x >>> fs[i].2.toNat ≠ 0#64) ∧
    ((putsF fs ((getsF w fs).set i x)).2 = true → getsF ((putsF fs ((getsF w fs).set i x)).1 ||| (w &&& ~~~ (allF fs 0#64).1)) fs = (getsF w fs).set i x) := by
  have hg : getsF w fs = fs.map (getF w) := by rw [getsF, if_pos c]
  have hl : fs.length = ((fs.map (getF w)).set i x).length := by simp
  have hp : putsF fs ((getsF w fs).set i x) = putF fs ((fs.map (getF w)).set i x) 0#64 := by rw [putsF, hg, if_pos ⟨c, hl⟩]
  have hA : (allF fs 0#64).1 = orF fs := A_eq c
  rw [hp, hA]
  have hfs := allF_good fs _ c
  by_cases hx : okX fs[i] x
  · obtain ⟨h1, P, h2, h3, h4, h5⟩ := putF_ok fs _ 0#64 0#64 c hl (fun j a b => by
      by_cases hj : i = j
      · subst hj; simpa using hx
      · rw [List.getElem_set_ne hj]; simp only [List.getElem_map]; exact gets_okX w fs j a)
    refine ⟨fun h => absurd h (by rw [h1]; simp), fun _ => ?_⟩
    rw [h2, getsF, if_pos c, hg]
    have e := gets_put (fs := fs) (w := w) h4
    simp only [BitVec.zero_or] at *
    rw [e, h5]
  · have := putF_no fs ((fs.map (getF w)).set i x) 0#64 hl (fun h => hx (by have := h i hi (by simpa using hi); simpa using this))
    rw [this]
    refine ⟨fun _ => ?_, fun h => by cases h⟩
    have ho := hfs fs[i] (List.getElem_mem hi)
    have hne : x >>> fs[i].2.toNat ≠ 0#64 := fun h => hx ((okX_iff ho x).2 h)
    refine ⟨?_, hne⟩
    apply Classical.byContradiction; intro h64
    apply hne
    have : 64 ≤ fs[i].2.toNat := by omega
    apply BitVec.eq_of_getLsbD_eq
    intro j hj
    rw [BitVec.getLsbD_ushiftRight, BitVec.getLsbD_of_ge _ _ (by omega)]; simp
theorem TagSet (v : Value) (fs : List (Int × Int)) (w : BitVec 64) (i : Int) (x : BitVec 64) (g : AMem) (n : Nat) (hdom : ∀ i, g i ≠ none → i < n) (hfo : ∀ f ∈ fs, fOk f) (hv : rdF g v fs) (_ : -9223372036854775808 ≤ i) (_ : i ≤ 9223372036854775807) :
    FnC Try.prog 4 [v, U w, .int .i64 i, U x] g n (fun _ => False) (.bool true) g n := by
  refine fnC_of_rwp t4 hm rfl fun hdom => ?_
  obtain ⟨a, e', hvf⟩ := hv.form
  simp (maxSteps := 1000000) (disch := first | assumption | omega | rfl | decide) [↓rules, rules, lit_u64, aEval_U, splice_nil, splice_zero, splice_step, gset_gset, Int.ofNat_inj, U_junk, U_cells, U_cellOk, ub_and, ub_or, ub_xor, ub_andNot, ub_add, ub_sub, ub_mul, ub_shl, ub_shr, ub_shl', ub_shr', ub_eql, ub_neq, ub_lss, ub_leq, ub_gtr, ub_geq, rc4]
  refine rcall_quiet rfl (awake g n) ?_
  by_cases c1 : (70 : Int) < fs.length
  · simp (maxSteps := 1000000) (disch := first | assumption | omega | rfl | decide) [↓rules, rules, lit_u64, aEval_U, splice_nil, splice_zero, splice_step, gset_gset, Int.ofNat_inj, U_junk, U_cells, U_cellOk, ub_and, ub_or, ub_xor, ub_andNot, ub_add, ub_sub, ub_mul, ub_shl, ub_shr, ub_shl', ub_shr', ub_eql, ub_neq, ub_lss, ub_leq, ub_gtr, ub_geq, hvf, tu22, c1]
    refine done_q hdom (Kept.refl hdom) ?_ ?_ <;> rfl
  simp (maxSteps := 1000000) (disch := first | assumption | omega | rfl | decide) [↓rules, rules, lit_u64, aEval_U, splice_nil, splice_zero, splice_step, gset_gset, Int.ofNat_inj, U_junk, U_cells, U_cellOk, ub_and, ub_or, ub_xor, ub_andNot, ub_add, ub_sub, ub_mul, ub_shl, ub_shr, ub_shl', ub_shr', ub_eql, ub_neq, ub_lss, ub_leq, ub_gtr, ub_geq, hvf, tu22, c1]
  rw [← hvf]
  have hl : fs.length < 4611686018427387904 := by omega
  refine rcall_quiet rfl (Good v fs g n hl hfo hv) ?_
  cases c : goodF fs
  · simp (maxSteps := 1000000) (disch := first | assumption | omega | rfl | decide) [↓rules, rules, lit_u64, aEval_U, splice_nil, splice_zero, splice_step, gset_gset, Int.ofNat_inj, U_junk, U_cells, U_cellOk, ub_and, ub_or, ub_xor, ub_andNot, ub_add, ub_sub, ub_mul, ub_shl, ub_shr, ub_shl', ub_shr', ub_eql, ub_neq, ub_lss, ub_leq, ub_gtr, ub_geq]
    refine done_q hdom (Kept.refl hdom) ?_ ?_ <;> rfl
  by_cases c2 : i < 0
  · simp (maxSteps := 1000000) (disch := first | assumption | omega | rfl | decide) [↓rules, rules, lit_u64, aEval_U, splice_nil, splice_zero, splice_step, gset_gset, Int.ofNat_inj, U_junk, U_cells, U_cellOk, ub_and, ub_or, ub_xor, ub_andNot, ub_add, ub_sub, ub_mul, ub_shl, ub_shr, ub_shl', ub_shr', ub_eql, ub_neq, ub_lss, ub_leq, ub_gtr, ub_geq, c2]
    refine done_q hdom (Kept.refl hdom) ?_ ?_ <;> rfl
  by_cases c3 : (fs.length : Int) ≤ i
  · simp (maxSteps := 1000000) (disch := first | assumption | omega | rfl | decide) [↓rules, rules, lit_u64, aEval_U, splice_nil, splice_zero, splice_step, gset_gset, Int.ofNat_inj, U_junk, U_cells, U_cellOk, ub_and, ub_or, ub_xor, ub_andNot, ub_add, ub_sub, ub_mul, ub_shl, ub_shr, ub_shl', ub_shr', ub_eql, ub_neq, ub_lss, ub_leq, ub_gtr, ub_geq, c2, c3, hvf, tu22]
    refine done_q hdom (Kept.refl hdom) ?_ ?_ <;> rfl
  simp (maxSteps := 1000000) (disch := first | assumption | omega | rfl | decide) [↓rules, rules, lit_u64, aEval_U, splice_nil, splice_zero, splice_step, gset_gset, Int.ofNat_inj, U_junk, U_cells, U_cellOk, ub_and, ub_or, ub_xor, ub_andNot, ub_add, ub_sub, ub_mul, ub_shl, ub_shr, ub_shl', ub_shr', ub_eql, ub_neq, ub_lss, ub_leq, ub_gtr, ub_geq, c2, c3, hvf, tu22]
  rw [← hvf]
  obtain ⟨i, rfl⟩ : ∃ k : Nat, i = k := ⟨i.toNat, by omega⟩
  have hi : i < fs.length := by omega
  have hg : (getsF w fs).length = fs.length := by rw [getsF, if_pos c]; simp
  refine rcall_spec (Get w v fs g n hdom (by omega) hfo hv) rfl (fun _ h => h.elim) rfl fun r g1 n1 ⟨hr, k1⟩ => ?_
  obtain ⟨a2, e2, hrf⟩ := hr.form
  have hr0 : aRead g1 1 r = some ((getsF w fs).length, (getsF w fs).flatMap fun w => [U w]) := hr
  simp (maxSteps := 1000000) (disch := first | assumption | omega | rfl | decide) [↓rules, rules, lit_u64, aEval_U, splice_nil, splice_zero, splice_step, gset_gset, Int.ofNat_inj, U_junk, U_cells, U_cellOk, ub_and, ub_or, ub_xor, ub_andNot, ub_add, ub_sub, ub_mul, ub_shl, ub_shr, ub_shl', ub_shr', ub_eql, ub_neq, ub_lss, ub_leq, ub_gtr, ub_geq, hrf, hvf, tu26, tu22, hg]
  rw [← hvf]
  have hne : fs.length ≠ 0 := by omega
  have k2 := k1.new (.row [] true)
  have hr1 : aRead (gset g1 n1 (some (.row [] true))) 1 (.slice a2 fs.length e2) = some (fs.length, (getsF w fs).map U) := by
    have := hr.ext (((Kept.refl k1.dom).new (.row [] true)).ext k1.dom)
    rw [hrf] at this
    unfold Rd at this
    rw [hg, flatMap_one] at this; exact this
  have hco := cellOks (getsF w fs)
  have hz1 : fs.length * 8 ≤ 70368744177664 := by omega
  have hz2 : fs.length ≤ 70368744177664 := by omega
  have hsp : splice ((getsF w fs).map U) i [U x] = ((getsF w fs).set i x).map U := by
    rw [splice_one _ _ _ (by simp; omega), List.map_set]
  have hi1 : i + 1 ≤ fs.length := by omega
  have hn1 := k1.le
  simp (maxSteps := 1000000) (disch := first | assumption | omega | rfl | decide) [↓rules, rules, lit_u64, aEval_U, splice_nil, splice_zero, splice_step, gset_gset, Int.ofNat_inj, U_junk, U_cells, U_cellOk, ub_and, ub_or, ub_xor, ub_andNot, ub_add, ub_sub, ub_mul, ub_shl, ub_shr, ub_shl', ub_shr', ub_eql, ub_neq, ub_lss, ub_leq, ub_gtr, ub_geq, fillS_nil, fillS_cons, fillP_nil, fillP_cons, fillO_some, nthP_cons, zeroRow_one, aRead_at, aRead_nil, readR_row, appR_nil, appR_row, appR1_row, appR_zero, grow_row, do_buildL tu26 tz23 ts23 rfl, zeroRow_zero, aAppend1 tu26 ts23 tb23 tv23 rfl, hr1, hne, hco, hz1, hz2, tu26, ts23, hi, hi1, hg, hsp]
  refine ⟨hn1, by omega, ?_⟩
  have k3 := ((k1.drop hn1).skip).new (.row (((getsF w fs).map U).set i (U x)) true)
  have hgx : ((getsF w fs).set i x).length = fs.length := by simp [hg]
  have hr3 : rdW (gset (gset g1 n1 none) (n1 + 1) (some (.row (((getsF w fs).map U).set i (U x)) true))) (.slice (some ⟨n1 + 1, 0, none⟩) fs.length 1) ((getsF w fs).set i x) := by
    refine Rd.of_row (enc := fun w => [U w]) (fun _ => rfl) (by simp [gset]; exact ⟨rfl, rfl⟩) ?_ ?_ hgx.symm
    · simp [hg]
    · rw [flatMap_one, List.map_set]; simp [hg, List.take_of_length_le]
  generalize hg3 : gset (gset g1 n1 none) (n1 + 1) (some (.row (((getsF w fs).map U).set i (U x)) true)) = g3 at k3 hr3
  obtain ⟨hp1, hp2⟩ := set_plain c w x hi
  refine rcall_quiet rfl (Put v _ fs ((getsF w fs).set i x) g3 _ (by omega) (by omega) hfo (hv.ext (k3.ext hdom)) hr3) ?_
  generalize putsF fs ((getsF w fs).set i x) = pq at hp1 hp2
  obtain ⟨q, ok⟩ := pq
  cases ok
  · obtain ⟨f1, f2⟩ := hp1 rfl
    obtain ⟨b1, o1, h1, hb1, h2, h3⟩ := Rd.many (enc := encF) (e := 2) (fun _ => rfl) hv hi
    have e1 := h3 g3 (k3.ext hdom) Try.prog 3 1 (.int .i64 fs[i].2) (by decide) rfl ta3
    have hfi := allF_good fs _ c fs[i] (List.getElem_mem hi)
    have hsh : BitVec.ofInt 64 fs[i].2 = BitVec.ofNat 64 fs[i].2.toNat := by
      apply BitVec.eq_of_toNat_eq; rw [BitVec.toNat_ofInt, BitVec.toNat_ofNat]; omega
    have hsh2 : x >>> BitVec.ofInt 64 fs[i].2 = x >>> fs[i].2.toNat := by
      rw [hsh]
      show x >>> (BitVec.ofNat 64 fs[i].2.toNat).toNat = _
      rw [BitVec.toNat_ofNat, Nat.mod_eq_of_lt (by omega)]
    rw [h1]
    simp (maxSteps := 1000000) (disch := first | assumption | omega | rfl | decide) [↓rules, rules, lit_u64, aEval_U, splice_nil, splice_zero, splice_step, gset_gset, Int.ofNat_inj, U_junk, U_cells, U_cellOk, ub_and, ub_or, ub_xor, ub_andNot, ub_add, ub_sub, ub_mul, ub_shl, ub_shr, ub_shl', ub_shr', ub_eql, ub_neq, ub_lss, ub_leq, ub_gtr, ub_geq, tu22, ts34, hi, tf34_1, e1, f1, conv_to_u64 tu3 tu35, hsh2, f2]
    refine done_q hdom k3 ?_ ?_ <;> rfl
  · have f1 := hp2 rfl
    simp (maxSteps := 1000000) (disch := first | assumption | omega | rfl | decide) [↓rules, rules, lit_u64, aEval_U, splice_nil, splice_zero, splice_step, gset_gset, Int.ofNat_inj, U_junk, U_cells, U_cellOk, ub_and, ub_or, ub_xor, ub_andNot, ub_add, ub_sub, ub_mul, ub_shl, ub_shr, ub_shl', ub_shr', ub_eql, ub_neq, ub_lss, ub_leq, ub_gtr, ub_geq]
    refine rcall_quiet rfl (Rest w v fs g3 _ hl hfo (hv.ext (k3.ext hdom))) ?_
    simp (maxSteps := 1000000) (disch := first | assumption | omega | rfl | decide) [↓rules, rules, lit_u64, aEval_U, splice_nil, splice_zero, splice_step, gset_gset, Int.ofNat_inj, U_junk, U_cells, U_cellOk, ub_and, ub_or, ub_xor, ub_andNot, ub_add, ub_sub, ub_mul, ub_shl, ub_shr, ub_shl', ub_shr', ub_eql, ub_neq, ub_lss, ub_leq, ub_gtr, ub_geq]
    refine rcall_spec (Get _ v fs g3 _ k3.dom (by omega) hfo (hv.ext (k3.ext hdom))) rfl (fun _ h => h.elim) rfl fun r4 g4 n4 ⟨hr4, k4⟩ => ?_
    have f1 : getsF (q ||| w &&& ~~~ (allF fs 0#64).1) fs = (getsF w fs).set i x := f1
    rw [f1] at hr4
    simp (maxSteps := 1000000) (disch := first | assumption | omega | rfl | decide) [↓rules, rules, lit_u64, aEval_U, splice_nil, splice_zero, splice_step, gset_gset, Int.ofNat_inj, U_junk, U_cells, U_cellOk, ub_and, ub_or, ub_xor, ub_andNot, ub_add, ub_sub, ub_mul, ub_shl, ub_shr, ub_shl', ub_shr', ub_eql, ub_neq, ub_lss, ub_leq, ub_gtr, ub_geq]
    refine rcall_quiet rfl (words r4 _ _ _ g4 n4 (by omega) (by omega) hr4 (hr3.ext (k4.ext k3.dom))) ?_
    simp (maxSteps := 1000000) (disch := first | assumption | omega | rfl | decide) [↓rules, rules, lit_u64, aEval_U, splice_nil, splice_zero, splice_step, gset_gset, Int.ofNat_inj, U_junk, U_cells, U_cellOk, ub_and, ub_or, ub_xor, ub_andNot, ub_add, ub_sub, ub_mul, ub_shl, ub_shr, ub_shl', ub_shr', ub_eql, ub_neq, ub_lss, ub_leq, ub_gtr, ub_geq]
    refine done_q hdom (k3.trans k4) ?_ ?_ <;> rfl
end Go.Proofs.Ythigpfognkmegaa.F
