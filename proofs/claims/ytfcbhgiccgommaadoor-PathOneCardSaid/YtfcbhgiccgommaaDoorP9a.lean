/- Contracts of functions: what each one returns, and what it leaves. No statement is proved here. -/
import Derived.Test.YtfcbhgiccgommaaDoorF9
import Derived.Shelf.Strings.OnBuilder
import Derived.Shelf.Strconv.Itoa3
set_option linter.unusedVariables false
set_option linter.unusedSimpArgs false
namespace Go.Proofs.YtfcbhgiccgommaaDoor.F9
open Go Go.Proofs Go.Proofs.YtfcbhgiccgommaaDoorAbs
set_option maxRecDepth 100000
abbrev rdW (g : AMem) (v : Value) (ws : List (BitVec 64)) : Prop := Rd g 1 (fun w => [U w]) v ws
abbrev rdI (g : AMem) (v : Value) (xs : List Int) : Prop := Rd g 1 (fun x => [.int .i64 x]) v xs
end Go.Proofs.YtfcbhgiccgommaaDoor.F9

namespace Go.Proofs.YtfcbhgiccgommaaDoor.F9
open Go Go.Proofs Go.Proofs.YtfcbhgiccgommaaDoorAbs
theorem LKk {k : IntKind} {v : Value} (h : (LK.int k).is v) : ∃ x : Int, v = .int k x ∧ k.min ≤ x ∧ x ≤ k.max := by
  obtain ⟨x, rfl, hx⟩ := h
  simp only [Lit.wf, Bool.and_eq_true, decide_eq_true_eq] at hx
  exact ⟨x, rfl, hx.1, hx.2⟩
theorem LKf {v : Value} (h : (LK.float .f64).is v) : ∃ x : Nat, v = .float .f64 x ∧ x < 18446744073709551616 := by
  obtain ⟨x, rfl, hx⟩ := h
  simp only [Lit.wf, decide_eq_true_eq] at hx
  exact ⟨x, rfl, hx⟩
theorem okWide_f64 {P : Program} {W : World} {r : Reach} {base : Nat} {t : TypeId} {v : Value} (ht : P.underlying t = some (.float .f64)) (h : Value.okWide P W r base t v) : ∃ n, v = .float .f64 n := by
  simp only [Value.okWide, ht, Cell.okWide] at h
  cases v <;> simp_all [Cell.ok]
theorem decWo {H : Type} {enc : TypeId × Value → H} {W : World} : ∀ c, Cells enc Tryd.prog W [.flat (.int .u64)] c → ∃ x : BitVec 64, [U x] = c ∧ True := fun c h => by
  obtain ⟨a, rfl, ha⟩ := h.flats1
  obtain ⟨x, rfl⟩ := LK.u64 ha
  exact ⟨x, rfl, trivial⟩
end Go.Proofs.YtfcbhgiccgommaaDoor.F9

namespace Go.Proofs.YtfcbhgiccgommaaDoor.F9
open Go Go.Proofs Go.Proofs.YtfcbhgiccgommaaDoorAbs
theorem decI {H : Type} {enc : TypeId × Value → H} {W : World} : ∀ c, Cells enc Tryd.prog W [.flat (.int .i64)] c → ∃ x : Int, [Value.int .i64 x] = c ∧ True := fun c h => by
  have hl := h.len
  simp only [List.length_cons, List.length_nil] at hl
  match c, hl, h with
  | [p], _, h =>
    obtain ⟨x, rfl, _⟩ := LK.i64 (h.at_ 0 (by simp) (by simp))
    exact ⟨x, rfl, trivial⟩
end Go.Proofs.YtfcbhgiccgommaaDoor.F9

namespace Go.Proofs.YtfcbhgiccgommaaDoor.F9
open Go Go.Proofs Go.Proofs.YtfcbhgiccgommaaDoorAbs
set_option maxRecDepth 100000
/-- A slice that is read, as a row. -/
theorem rd_all {α : Type} {enc : α → List Value} {e : Nat} {g : AMem} {v : Value} {xs : List α} (h : Rd g e enc v xs) (h0 : 0 < xs.length) : ∃ b o cs r, v = .slice (some ⟨b, o, none⟩) xs.length e ∧ g b = some (.row cs r) ∧ o + xs.length * e ≤ cs.length ∧ xs.flatMap enc = (cs.drop o).take (xs.length * e) := aRead_row h h0
/-- Its elements. -/
theorem rd_elems {α : Type} {f : α → Value} {g : AMem} {v : Value} {xs : List α} (h : Rd g 1 (fun x => [f x]) v xs) (h0 : 0 < xs.length) :
    ∃ b o, v = .slice (some ⟨b, o, none⟩) xs.length 1 ∧ g b ≠ none ∧ ∀ (i : Nat) (hi : i < xs.length) (g2 : AMem), Ext g g2 → ∀ (P : Program) (t : TypeId), tagg P t = some false → aLoad P g2 t (.pointer (some ⟨b, o + i, none⟩)) = some (f xs[i]) := by
  obtain ⟨b, o, h1, h2, _⟩ := h.one h0
  refine ⟨b, o, h1, h2, fun i hi g2 hx P t ht => ?_⟩
  obtain ⟨b', o', h3, _, h4⟩ := h.one hi
  rw [h1] at h3
  simp only [Value.slice.injEq, Option.some.injEq, Addr.mk.injEq] at h3
  obtain ⟨⟨rfl, rfl, _⟩, _⟩ := h3
  exact h4 g2 hx P t ht
theorem rd_nths {α : Type} {f : α → Value} {g : AMem} {v : Value} {xs : List α} (h : Rd g 1 (fun x => [f x]) v xs) (h0 : 0 < xs.length) :
    ∃ b o cs r, v = .slice (some ⟨b, o, none⟩) xs.length 1 ∧ g b = some (.row cs r) ∧ ∀ (i : Nat) (hi : i < xs.length), nth cs (o + i) = some (f xs[i]) := by
  obtain ⟨b, o, cs, r, h1, h2, h3, h4⟩ := rd_all h h0
  refine ⟨b, o, cs, r, h1, h2, fun i hi => ?_⟩
  rw [flatMap_one, Nat.mul_one] at h4
  have : (xs.map f)[i]? = some (f xs[i]) := by simp [hi]
  rw [h4, List.getElem?_take, if_pos hi, List.getElem?_drop] at this
  rw [← nth_eq]; exact this
/-- A part of it. -/
theorem rd_part {α : Type} {enc : α → List Value} {e : Nat} (he : ∀ x, (enc x).length = e) {g : AMem} {b o n : Nat} {xs : List α} (h : Rd g e enc (.slice (some ⟨b, o, none⟩) n e) xs) (k m : Nat) (hm : k + m ≤ xs.length) : Rd g e enc (.slice (some ⟨b, o + k * e, none⟩) m e) ((xs.drop k).take m) := by
  have hn : n = xs.length := by
    obtain ⟨a, e', h1⟩ := h.form
    simp only [Value.slice.injEq] at h1
    exact h1.2.1
  have hl : ((xs.drop k).take m).length = m := by rw [List.length_take, List.length_drop]; omega
  by_cases h0 : m = 0
  · subst h0
    simp [Rd, aRead]
  obtain ⟨b', o', cs, r, h1, h2, h3, h4⟩ := rd_all h (by omega)
  simp only [Value.slice.injEq, Option.some.injEq, Addr.mk.injEq] at h1
  obtain ⟨⟨rfl, rfl, _⟩, _⟩ := h1
  have hke : k * e + m * e ≤ xs.length * e := by rw [← Nat.add_mul]; exact Nat.mul_le_mul_right _ hm
  refine Rd.of_row he h2 (by rw [hl]; omega) ?_ hl.symm
  rw [hl]
  have e1 : xs.flatMap enc = (xs.take k).flatMap enc ++ (((xs.drop k).take m).flatMap enc ++ ((xs.drop k).drop m).flatMap enc) := by
    rw [← List.flatMap_append, List.take_append_drop, ← List.flatMap_append, List.take_append_drop]
  have l1 : ((xs.take k).flatMap enc).length = k * e := by rw [flat_length he, List.length_take, Nat.min_eq_left (by omega)]
  have l2 : (((xs.drop k).take m).flatMap enc).length = m * e := by rw [flat_length he, hl]
  have e2 : ((xs.flatMap enc).drop (k * e)).take (m * e) = ((xs.drop k).take m).flatMap enc := by
    rw [e1, ← l1, List.drop_left, ← l2, List.take_left]
  rw [← e2, h4, List.drop_take, List.drop_drop, List.take_take, Nat.min_eq_left (by omega)]
theorem rd_read {α : Type} {enc : α → List Value} {e : Nat} {g : AMem} {v : Value} {xs : List α} (h : Rd g e enc v xs) : aRead g e v = some (xs.length, xs.flatMap enc) := h
set_option maxHeartbeats 2000000
end Go.Proofs.YtfcbhgiccgommaaDoor.F9

namespace Go.Proofs.YtfcbhgiccgommaaDoor.F9
open Go Go.Proofs Go.Proofs.YtfcbhgiccgommaaDoorAbs
set_option maxRecDepth 100000
def M (a b : Int) : BitVec 64 := ((1#64 <<< b.toNat) - 1#64) <<< a.toNat
set_option maxHeartbeats 2000000
abbrev okF (a b : Int) (w : BitVec 64) : Prop := 0 ≤ a ∧ a < 64 ∧ 1 ≤ b ∧ b ≤ 64 - a ∧ w &&& M a b = 0#64
/-- All fields' bits. -/
def allF : List (Int × Int) → BitVec 64 → BitVec 64 × Bool
  | [], w => (w, true)
  | f :: fs, w => if okF f.1 f.2 w then allF fs (w ||| M f.1 f.2) else (0#64, false)
def encF (f : Int × Int) : List Value := [.int .i64 f.1, .int .i64 f.2]
def fOk (f : Int × Int) : Prop := -9223372036854775808 ≤ f.1 ∧ f.1 ≤ 9223372036854775807 ∧ -9223372036854775808 ≤ f.2 ∧ f.2 ≤ 9223372036854775807
def goodF (fs : List (Int × Int)) : Bool := (allF fs 0#64).2
abbrev rdF (g : AMem) (v : Value) (fs : List (Int × Int)) : Prop := Rd g 2 encF v fs
theorem allF_good : ∀ (fs : List (Int × Int)) (w : BitVec 64), (allF fs w).2 = true → ∀ f ∈ fs, 0 ≤ f.1 ∧ f.1 < 64 ∧ 1 ≤ f.2 ∧ f.2 ≤ 64 - f.1
  | [], w, h, f, hf => by cases hf
  | x :: fs, w, h, f, hf => by
    rw [allF] at h
    split at h
    · rename_i ho
      cases hf with
      | head => exact ⟨ho.1, ho.2.1, ho.2.2.1, ho.2.2.2.1⟩
      | tail _ hf => exact allF_good fs _ h f hf
    · cases h
def getF (w : BitVec 64) (f : Int × Int) : BitVec 64 := (w &&& M f.1 f.2) >>> f.1.toNat
def getsF (w : BitVec 64) (fs : List (Int × Int)) : List (BitVec 64) := if goodF fs = true then fs.map (getF w) else []
theorem cellOks (ws : List (BitVec 64)) : (ws.map U).all cellOk = true := by
  induction ws with
  | nil => rfl
  | cons w ws ih => simp [ih, U_cellOk]
def putF : List (Int × Int) → List (BitVec 64) → BitVec 64 → BitVec 64 × Bool
  | f :: fs, x :: xs, w => if M f.1 f.2 >>> f.1.toNat < x then (0#64, false) else putF fs xs (w ||| x <<< f.1.toNat)
  | _, _, w => (w, true)
def putsF (fs : List (Int × Int)) (xs : List (BitVec 64)) : BitVec 64 × Bool := if goodF fs = true ∧ fs.length = xs.length then putF fs xs 0#64 else (0#64, false)
end Go.Proofs.YtfcbhgiccgommaaDoor.F9

namespace Go.Proofs.YtfcbhgiccgommaaDoor.F9
open Go Go.Proofs Go.Proofs.YtfcbhgiccgommaaDoorAbs
set_option maxRecDepth 100000
theorem ones_bit (b i : Nat) (hb : b ≤ 64) (hi : i < 64) : ((1#64 <<< b) - 1#64).getLsbD i = decide (i < b) := by
  have e : ((1#64 <<< b) - 1#64).toNat = 2 ^ b - 1 := by
    rw [BitVec.toNat_sub, BitVec.toNat_shiftLeft, Nat.shiftLeft_eq]
    by_cases h : b = 64
    · subst h; decide
    · have h1 : (2 : Nat) ^ b < 2 ^ 64 := Nat.pow_lt_pow_right (by decide) (by omega)
      have h2 : 0 < (2 : Nat) ^ b := Nat.pow_pos (by decide)
      simp only [BitVec.toNat_ofNat]
      have e1 : 1 % 2 ^ 64 * 2 ^ b % 2 ^ 64 = 2 ^ b := by rw [Nat.mod_eq_of_lt (a := 1) (by decide), Nat.one_mul, Nat.mod_eq_of_lt h1]
      rw [e1]; omega
  rw [BitVec.getLsbD, e, Nat.testBit_two_pow_sub_one]
theorem M_bit (p q : Int) (hp : 0 ≤ p) (hq : 0 ≤ q) (hs : p + q ≤ 64) (i : Nat) (hi : i < 64) : (M p q).getLsbD i = decide (p.toNat ≤ i ∧ i < p.toNat + q.toNat) := by
  unfold M
  rw [BitVec.getLsbD_shiftLeft]
  by_cases h : i < p.toNat
  · simp [h, hi]; omega
  · rw [ones_bit _ _ (by omega) (by omega)]
    simp only [hi, h, decide_true, decide_false, Bool.not_false, Bool.true_and, decide_eq_decide]; omega
def okS (f : Int × Int) : Prop := 0 ≤ f.1 ∧ f.1 < 64 ∧ 1 ≤ f.2 ∧ f.2 ≤ 64 - f.1
theorem getF_back (w : BitVec 64) (f : Int × Int) (h : okS f) : getF w f <<< f.1.toNat = w &&& M f.1 f.2 := by
  obtain ⟨h1, h2, h3, h4⟩ := h
  apply BitVec.eq_of_getLsbD_eq
  intro i hi
  rw [getF, BitVec.getLsbD_shiftLeft]
  by_cases h : i < f.1.toNat
  · have := M_bit f.1 f.2 h1 (by omega) (by omega) i hi
    have hz : (M f.1 f.2).getLsbD i = false := by rw [this]; simp; omega
    simp only [hi, h, decide_true, Bool.not_true, Bool.and_false, Bool.false_and, BitVec.getLsbD_and, hz]
  · simp [h, hi, show f.1.toNat + (i - f.1.toNat) = i by omega]
theorem getF_le (w : BitVec 64) (f : Int × Int) : ¬ M f.1 f.2 >>> f.1.toNat < getF w f := by
  rw [BitVec.not_lt, BitVec.le_def, getF, BitVec.toNat_ushiftRight, BitVec.toNat_ushiftRight, BitVec.toNat_and, Nat.shiftRight_eq_div_pow, Nat.shiftRight_eq_div_pow]
  exact Nat.div_le_div_right Nat.and_le_right
def orF : List (Int × Int) → BitVec 64
  | [] => 0#64
  | f :: fs => M f.1 f.2 ||| orF fs
theorem allF_val : ∀ (fs : List (Int × Int)) (w : BitVec 64), (allF fs w).2 = true → (allF fs w).1 = w ||| orF fs
  | [], w, h => by simp [allF, orF]
  | f :: fs, w, h => by
    rw [allF] at h ⊢
    split at h
    · rename_i ho
      rw [if_pos ho, allF_val fs _ h, orF, BitVec.or_assoc]
    · cases h
theorem putF_gets (w : BitVec 64) : ∀ (fs : List (Int × Int)) (acc : BitVec 64), (∀ f ∈ fs, okS f) → putF fs (fs.map (getF w)) acc = (acc ||| (w &&& orF fs), true)
  | [], acc, h => by simp [putF, orF]
  | f :: fs, acc, h => by
    rw [List.map_cons, putF, if_neg (getF_le w f), putF_gets w fs _ (fun f hf => h f (by simp [hf])), getF_back w f (h f (by simp)), orF]
    congr 1
    apply BitVec.eq_of_getLsbD_eq
    intro i hi
    simp only [BitVec.getLsbD_or, BitVec.getLsbD_and, Bool.and_or_distrib_left, Bool.or_assoc]
theorem orF_mem : ∀ (fs : List (Int × Int)) (f : Int × Int), f ∈ fs → orF fs &&& M f.1 f.2 = M f.1 f.2
  | g :: fs, f, h => by
    apply BitVec.eq_of_getLsbD_eq
    intro i hi
    cases h with
    | head => simp only [orF, BitVec.getLsbD_or, BitVec.getLsbD_and]; cases (M g.1 g.2).getLsbD i <;> simp
    | tail _ h =>
      have := congrArg (fun x => BitVec.getLsbD x i) (orF_mem fs f h)
      simp only [BitVec.getLsbD_and] at this
      simp only [orF, BitVec.getLsbD_or, BitVec.getLsbD_and]
      cases h1 : (M f.1 f.2).getLsbD i <;> simp_all
/-- All fields' bits. -/
def A (fs : List (Int × Int)) : BitVec 64 := (allF fs 0#64).1
theorem A_eq {fs : List (Int × Int)} (h : goodF fs = true) : A fs = orF fs := by rw [A, allF_val fs _ h]; simp
theorem puts_gets (w : BitVec 64) {fs : List (Int × Int)} (h : goodF fs = true) : putsF fs (getsF w fs) = (w &&& A fs, true) := by
  rw [putsF, getsF, if_pos h, if_pos ⟨h, by simp⟩, putF_gets w fs _ (allF_good fs _ h), A_eq h]; simp
theorem gets_and (w : BitVec 64) {fs : List (Int × Int)} (h : goodF fs = true) : getsF (w &&& A fs) fs = getsF w fs := by
  rw [getsF, getsF, if_pos h, if_pos h]
  apply List.map_congr_left
  intro f hf
  rw [getF, getF, BitVec.and_assoc, A_eq h, orF_mem fs f hf]
theorem split_or (w a : BitVec 64) : w &&& a ||| w &&& ~~~ a = w := by
  apply BitVec.eq_of_getLsbD_eq
  intro i hi
  simp only [BitVec.getLsbD_or, BitVec.getLsbD_and, BitVec.getLsbD_not, hi, decide_true, Bool.true_and]
  cases w.getLsbD i <;> cases a.getLsbD i <;> rfl
theorem split_and (w a : BitVec 64) : w &&& a &&& (w &&& ~~~ a) = 0#64 := by
  apply BitVec.eq_of_getLsbD_eq
  intro i hi
  simp only [BitVec.getLsbD_and, BitVec.getLsbD_not, hi, decide_true, Bool.true_and, BitVec.getLsbD_zero]
  cases w.getLsbD i <;> cases a.getLsbD i <;> rfl
theorem split_not (w a : BitVec 64) : w &&& a &&& ~~~ a = 0#64 := by
  apply BitVec.eq_of_getLsbD_eq
  intro i hi
  simp only [BitVec.getLsbD_and, BitVec.getLsbD_not, hi, decide_true, Bool.true_and, BitVec.getLsbD_zero]
  cases w.getLsbD i <;> cases a.getLsbD i <;> rfl
end Go.Proofs.YtfcbhgiccgommaaDoor.F9

namespace Go.Proofs.YtfcbhgiccgommaaDoor.F9
open Go Go.Proofs Go.Proofs.YtfcbhgiccgommaaDoorAbs
set_option maxHeartbeats 4000000
set_option maxRecDepth 100000
/-! ### Fields as numbers -/
theorem put_step {w x : BitVec 64} {p q : Nat} (hw : w.toNat < 2 ^ p) (hx : x.toNat < 2 ^ q) (hpq : p + q ≤ 64) : (w ||| x <<< p).toNat = w.toNat + x.toNat * 2 ^ p ∧ (w ||| x <<< p).toNat < 2 ^ (p + q) := by
  have h64 : (2 : Nat) ^ (p + q) ≤ 2 ^ 64 := Nat.pow_le_pow_right (by decide) hpq
  have e : x.toNat * 2 ^ p + w.toNat < 2 ^ (p + q) := by
    rw [Nat.add_comm p q, Nat.pow_add]
    have : (x.toNat + 1) * 2 ^ p ≤ 2 ^ q * 2 ^ p := Nat.mul_le_mul_right _ hx
    rw [Nat.succ_mul] at this
    omega
  have e1 : (x <<< p).toNat = x.toNat * 2 ^ p := by
    rw [BitVec.toNat_shiftLeft, Nat.shiftLeft_eq, Nat.mod_eq_of_lt (by omega)]
  have e2 : (w ||| x <<< p).toNat = w.toNat + x.toNat * 2 ^ p := by
    rw [BitVec.toNat_or, e1, Nat.or_comm, ← Nat.shiftLeft_eq, ← Nat.shiftLeft_add_eq_or_of_lt hw, Nat.shiftLeft_eq]; omega
  exact ⟨e2, by rw [e2]; omega⟩
theorem M_high (p q : Nat) (hpq : p + q ≤ 64) : (M p q >>> p).toNat = 2 ^ q - 1 := by
  have e : M p q >>> p = (1#64 <<< q) - 1#64 := by
    apply BitVec.eq_of_getLsbD_eq
    intro i hi
    rw [BitVec.getLsbD_ushiftRight, ones_bit q i (by omega) hi]
    by_cases h : p + i < 64
    · rw [M_bit p q (by omega) (by omega) (by omega) _ h]
      simp
    · rw [BitVec.getLsbD_of_ge _ _ (by omega)]
      symm; simp; omega
  rw [e, BitVec.toNat_sub, BitVec.toNat_shiftLeft, Nat.shiftLeft_eq]
  by_cases h : q = 64
  · subst h; decide
  · have h1 : (2 : Nat) ^ q < 2 ^ 64 := Nat.pow_lt_pow_right (by decide) (by omega)
    have h2 : 0 < (2 : Nat) ^ q := Nat.pow_pos (by decide)
    simp only [BitVec.toNat_ofNat]
    have e1 : 1 % 2 ^ 64 * 2 ^ q % 2 ^ 64 = 2 ^ q := by rw [Nat.mod_eq_of_lt (a := 1) (by decide), Nat.one_mul, Nat.mod_eq_of_lt h1]
    rw [e1]; omega
theorem putF_ok {p q : Nat} {fs : List (Int × Int)} {x : BitVec 64} {xs : List (BitVec 64)} {w : BitVec 64} (hx : x.toNat < 2 ^ q) (hpq : p + q ≤ 64) : putF (((p : Int), (q : Int)) :: fs) (x :: xs) w = putF fs xs (w ||| x <<< p) := by
  rw [putF, if_neg]
  · rfl
  · simp only [Int.toNat_natCast]
    rw [BitVec.lt_def, M_high p q hpq]; omega
theorem getF_nat (w : BitVec 64) (p q : Nat) (hpq : p + q ≤ 64) : (getF w ((p : Int), (q : Int))).toNat = w.toNat / 2 ^ p % 2 ^ q := by
  have e : getF w ((p : Int), (q : Int)) = (w >>> p) &&& ((1#64 <<< q) - 1#64) := by
    unfold getF
    apply BitVec.eq_of_getLsbD_eq
    intro i hi
    simp only [Int.toNat_natCast]
    rw [BitVec.getLsbD_ushiftRight, BitVec.getLsbD_and, BitVec.getLsbD_and, BitVec.getLsbD_ushiftRight, ones_bit q i (by omega) hi]
    by_cases h : p + i < 64
    · rw [M_bit p q (by omega) (by omega) (by omega) _ h]
      simp
    · rw [BitVec.getLsbD_of_ge _ _ (by omega)]
      simp
  have e1 : ((1#64 <<< q) - 1#64).toNat = 2 ^ q - 1 := by
    have := M_high 0 q (by omega)
    simpa [M] using this
  rw [e, BitVec.toNat_and, BitVec.toNat_ushiftRight, e1, Nat.and_two_pow_sub_one_eq_mod, Nat.shiftRight_eq_div_pow]
theorem mv1_flat (n : Nat) {v : Value} (h : flatV v = true) : mv1 n v = v := by
  unfold mv1
  split
  · cases h
  · cases h
  · cases h
  · rfl
noncomputable def runOf (f : FuncId) (k d : Nat) : Option XR := xfn Tryd.prog tab k d f [] (fun _ => none) 0
theorem fields_run {f : FuncId} {k d b m : Nat} {fs : List (Int × Int)} (h : (runOf f k d).isSome = true)
    (hv : ((runOf f k d).map (·.v)) = some (.slice (some ⟨b, 0, none⟩) fs.length 2)) (hg : ((runOf f k d).bind fun r => r.g b) = some (.row (fs.flatMap encF) true))
    (hall : ((runOf f k d).map fun r => (List.range r.n).all (fun i => match r.g i with | some o => okMvO o | none => true)) = some true) (n : Nat) :
    FnS Tryd.prog f [] (fun _ => none) n (fun _ => False) fun v g' n' => rdF g' v fs ∧ Kept (fun _ => none) n g' n' := by
  cases hr : runOf f k d with
  | none => rw [hr] at h; cases h
  | some r =>
    rw [hr] at hv hg hall
    simp only [Option.map_some, Option.some.injEq, Option.bind_some] at hv hg hall
    obtain ⟨v, g', n', h1, rfl, rfl, rfl, h5⟩ := FnS.moved (xfn_ok hm tabOk k d) hr rfl (by rw [hv]; rfl) hall n
    refine ⟨_, _, _, h1, ?_, h5⟩
    rw [hv]
    show Rd _ 2 encF (.slice (some ⟨n + b, 0, none⟩) fs.length 2) fs
    refine Rd.of_row (e := 2) (enc := encF) (fun _ => rfl) (cs := fs.flatMap encF) (rw_ := true) ?_ ?_ ?_ rfl
    · rw [mvG_at, hg]
      simp only [Option.map_some, mvO, Option.some.injEq, AObj.row.injEq, and_true]
      have : ∀ l : List Value, l.all flatV = true → l.map (mv1 n) = l := by
        intro l
        induction l with
        | nil => intro _; rfl
        | cons x l ih =>
          intro h
          simp only [List.all_cons, Bool.and_eq_true] at h
          rw [List.map_cons, ih h.2]
          congr 1
          exact mv1_flat n h.1
      refine this _ ?_
      rw [List.all_eq_true]
      intro x hx
      rw [List.mem_flatMap] at hx
      obtain ⟨f, _, hx⟩ := hx
      simp only [encF, List.mem_cons, List.not_mem_nil, or_false] at hx
      rcases hx with rfl | rfl <;> rfl
    · simp [flat_length (enc := encF) (e := 2) (fun _ => rfl)]
    · simp [flat_length (enc := encF) (e := 2) (fun _ => rfl), List.take_of_length_le]
theorem ofInt_nat {v : Int} (h1 : 0 ≤ v) (h2 : v < 18446744073709551616) : (BitVec.ofInt 64 v).toNat = v.toNat := by
  rw [BitVec.toNat_ofInt]; omega
theorem rd_row {g : AMem} {b : Nat} {ws : List (BitVec 64)} {m : Nat} (h : g b = some (.row (ws.map U) true)) (hm : m = ws.length) : rdW g (.slice (some ⟨b, 0, none⟩) m 1) ws := by
  refine Rd.of_row (e := 1) (enc := fun w => [U w]) (fun _ => rfl) h (by simp) ?_ hm
  rw [flatMap_one, List.drop_zero, Nat.mul_one, List.take_of_length_le (by simp)]
/-- Some bits of a word as a number. -/
def fld (w : BitVec 64) (p q : Nat) : Int := ((w.toNat / 2 ^ p % 2 ^ q : Nat) : Int)
theorem fld_wrap (w : BitVec 64) (p q : Nat) (hpq : p + q ≤ 64) (hq : q ≤ 32) : IntKind.i64.wrap (uI (getF w ((p : Int), (q : Int)))) = fld w p q := by
  have h : w.toNat / 2 ^ p % 2 ^ q < 4294967296 := Nat.lt_of_lt_of_le (Nat.mod_lt _ (Nat.pow_pos (by decide))) (Nat.le_trans (Nat.pow_le_pow_right (by decide) hq) (by decide))
  unfold uI fld
  rw [getF_nat w p q hpq, wrap_i64 (by omega) (by omega)]
end Go.Proofs.YtfcbhgiccgommaaDoor.F9

namespace Go.Proofs.YtfcbhgiccgommaaDoor.F9
open Go Go.Proofs
set_option maxRecDepth 100000
def lays171_ren : Go.Shelf.Ren :=
{
  f := fun x => match x with
    | 171 => 44
    | 243 => 65
    | 246 => 79
    | 283 => 90
    | 284 => 91
    | 285 => 92
    | 286 => 93
    | 129 => 104
    | 317 => 103
    | 318 => 105
    | 319 => 106
    | 320 => 107
    | 337 => 115
    | 338 => 116
    | n => n,
  t := fun x => match x with
    | 3 => 3
    | 9 => 9
    | 2 => 2
    | 4 => 4
    | 171 => 116
    | 0 => 0
    | 53 => 27
    | 37 => 93
    | 5 => 5
    | 173 => 119
    | 212 => 135
    | 51 => 136
    | 20 => 20
    | 213 => 137
    | 46 => 85
    | 232 => 151
    | 233 => 152
    | n => n,
  g := fun x => match x with
    | 17 => 2
    | 18 => 6
    | 19 => 7
    | n => n }
theorem lays171 : Lays.n171 Tryd.prog lays171_ren :=
  { mixed := rfl, f129 := Tryd.func104.trans (congrArg some (by kernel_rfl)), f171 := Tryd.func44.trans (congrArg some (by kernel_rfl)), f243 := Tryd.func65.trans (congrArg some (by kernel_rfl)), f246 := Tryd.func79.trans (congrArg some (by kernel_rfl)), f283 := Tryd.func90.trans (congrArg some (by kernel_rfl)), f284 := Tryd.func91.trans (congrArg some (by kernel_rfl)), f285 := Tryd.func92.trans (congrArg some (by kernel_rfl)), f286 := Tryd.func93.trans (congrArg some (by kernel_rfl)), f317 := Tryd.func103.trans (congrArg some (by kernel_rfl)), f318 := Tryd.func105.trans (congrArg some (by kernel_rfl)), f319 := Tryd.func106.trans (congrArg some (by kernel_rfl)), f320 := Tryd.func107.trans (congrArg some (by kernel_rfl)), f337 := Tryd.func115.trans (congrArg some (by kernel_rfl)), f338 := Tryd.func116.trans (congrArg some (by kernel_rfl)), t0 := Tryd.underlying0, a0 := Tryd.isAgg0, z0 := Tryd.sizeOf0, v0 := Tryd.zeroValue0, t2 := Tryd.underlying2, a2 := Tryd.isAgg2, z2 := Tryd.sizeOf2, v2 := Tryd.zeroValue2, t3 := Tryd.underlying3, a3 := Tryd.isAgg3, z3 := Tryd.sizeOf3, v3 := Tryd.zeroValue3, t4 := Tryd.underlying4, a4 := Tryd.isAgg4, z4 := Tryd.sizeOf4, v4 := Tryd.zeroValue4, t5 := Tryd.underlying5, a5 := Tryd.isAgg5, z5 := Tryd.sizeOf5, v5 := Tryd.zeroValue5, t9 := Tryd.underlying9, a9 := Tryd.isAgg9, z9 := Tryd.sizeOf9, v9 := Tryd.zeroValue9, t20 := Tryd.underlying20, a20 := Tryd.isAgg20, z20 := Tryd.sizeOf20, v20 := Tryd.zeroValue20, t37 := Tryd.underlying93, a37 := Tryd.isAgg93, z37 := Tryd.sizeOf93, v37 := Tryd.zeroValue93, t46 := Tryd.underlying85, a46 := Tryd.isAgg85, z46 := Tryd.sizeOf85, v46 := Tryd.zeroValue85, t51 := Tryd.underlying136, a51 := Tryd.isAgg136, z51 := Tryd.sizeOf136, v51 := Tryd.zeroValue136, t53 := Tryd.underlying27, a53 := Tryd.isAgg27, z53 := Tryd.sizeOf27, v53 := Tryd.zeroValue27, t171 := Tryd.underlying116, a171 := Tryd.isAgg116, z171 := Tryd.sizeOf116, v171 := Tryd.zeroValue116, t173 := Tryd.underlying119, a173 := Tryd.isAgg119, z173 := Tryd.sizeOf119, v173 := Tryd.zeroValue119, t212 := Tryd.underlying135, a212 := Tryd.isAgg135, z212 := Tryd.sizeOf135, v212 := Tryd.zeroValue135, t213 := Tryd.underlying137, a213 := Tryd.isAgg137, z213 := Tryd.sizeOf137, t232 := Tryd.underlying151, a232 := Tryd.isAgg151, z232 := Tryd.sizeOf151, v232 := Tryd.zeroValue151, t233 := Tryd.underlying152, a233 := Tryd.isAgg152, z233 := Tryd.sizeOf152, v233 := Tryd.zeroValue152, g17 := by kernel_rfl, g18 := by kernel_rfl, g19 := by kernel_rfl }
def lays156_ren : Go.Shelf.Ren :=
{
  f := fun x => match x with
    | 156 => 45
    | 165 => 66
    | 166 => 67
    | 169 => 68
    | 240 => 80
    | 241 => 81
    | 276 => 94
    | 277 => 95
    | n => n,
  t := fun x => match x with
    | 31 => 65
    | 9 => 9
    | 3 => 3
    | 4 => 4
    | 0 => 0
    | 20 => 20
    | 72 => 95
    | 76 => 89
    | 70 => 92
    | 37 => 93
    | 75 => 88
    | 127 => 107
    | 164 => 121
    | 5 => 5
    | 80 => 97
    | n => n,
  g := fun n => n }
theorem lays156 : Lays.n156 Tryd.prog lays156_ren :=
  { mixed := rfl, f156 := Tryd.func45.trans (congrArg some (by kernel_rfl)), f165 := Tryd.func66.trans (congrArg some (by kernel_rfl)), f166 := Tryd.func67.trans (congrArg some (by kernel_rfl)), f169 := Tryd.func68.trans (congrArg some (by kernel_rfl)), f240 := Tryd.func80.trans (congrArg some (by kernel_rfl)), f241 := Tryd.func81.trans (congrArg some (by kernel_rfl)), f276 := Tryd.func94.trans (congrArg some (by kernel_rfl)), f277 := Tryd.func95.trans (congrArg some (by kernel_rfl)), t0 := Tryd.underlying0, a0 := Tryd.isAgg0, z0 := Tryd.sizeOf0, v0 := Tryd.zeroValue0, t3 := Tryd.underlying3, a3 := Tryd.isAgg3, z3 := Tryd.sizeOf3, v3 := Tryd.zeroValue3, t4 := Tryd.underlying4, a4 := Tryd.isAgg4, z4 := Tryd.sizeOf4, v4 := Tryd.zeroValue4, t9 := Tryd.underlying9, a9 := Tryd.isAgg9, z9 := Tryd.sizeOf9, v9 := Tryd.zeroValue9, t20 := Tryd.underlying20, a20 := Tryd.isAgg20, z20 := Tryd.sizeOf20, v20 := Tryd.zeroValue20, t31 := Tryd.underlying65, a31 := Tryd.isAgg65, z31 := Tryd.sizeOf65, v31 := Tryd.zeroValue65, t37 := Tryd.underlying93, a37 := Tryd.isAgg93, z37 := Tryd.sizeOf93, v37 := Tryd.zeroValue93, t70 := Tryd.underlying92, a70 := Tryd.isAgg92, z70 := Tryd.sizeOf92, v70 := Tryd.zeroValue92, t72 := Tryd.underlying95, a72 := Tryd.isAgg95, z72 := Tryd.sizeOf95, v72 := Tryd.zeroValue95, t75 := Tryd.underlying88, a75 := Tryd.isAgg88, z75 := Tryd.sizeOf88, v75 := Tryd.zeroValue88, t76 := Tryd.underlying89, a76 := Tryd.isAgg89, z76 := Tryd.sizeOf89, v76 := Tryd.zeroValue89, t127 := Tryd.underlying107, a127 := Tryd.isAgg107, z127 := Tryd.sizeOf107, v127 := Tryd.zeroValue107, t164 := Tryd.underlying121, a164 := Tryd.isAgg121, z164 := Tryd.sizeOf121, v164 := Tryd.zeroValue121 }
end Go.Proofs.YtfcbhgiccgommaaDoor.F9

namespace Go.Proofs.YtfcbhgiccgommaaDoor.F9
open Go Go.Proofs Go.Proofs.YtfcbhgiccgommaaDoorAbs
set_option maxRecDepth 100000
/-! ### Itoa, Join: out of the kit's shelf -/
theorem extra156 : Builder.Extra Tryd.prog lays156_ren where
  sizeBuilder := by kernel_rfl
  liesBuilder := by kernel_rfl
  t5 := by kernel_rfl
  a5 := fun w => run_isAgg' (by kernel_rfl)
  z5 := fun w => run_sizeOf' (by kernel_rfl)
  v5 := fun w => run_zeroValue' (by kernel_rfl)
  infoByte := by kernel_rfl
  cellsByte := by kernel_rfl
  sizeByte := by kernel_rfl
  neB5 := by decide
def itoaB (i : Int) : ByteArray := ⟨(Lib.decDigits i.toNat).toArray⟩
theorem vrs_one {ρ : Nat → Option Nat} {sz : Nat → Nat} {v : Value} {cargs : Array Value} (h : VRs ρ sz [v] cargs.toList) : ∃ cv, cargs = #[cv] ∧ VRel ρ sz v cv := by
  obtain ⟨l⟩ := cargs
  match l, h with
  | [], h => exact absurd h.len (by simp)
  | [a], h => exact ⟨a, rfl, h.at_ 0 (by simp) (by simp)⟩
  | a :: b :: r, h => exact absurd h.len (by simp)
theorem vrs_two {ρ : Nat → Option Nat} {sz : Nat → Nat} {v u : Value} {cargs : Array Value} (h : VRs ρ sz [v, u] cargs.toList) : ∃ cv cu, cargs = #[cv, cu] ∧ VRel ρ sz v cv ∧ VRel ρ sz u cu := by
  obtain ⟨l⟩ := cargs
  match l, h with
  | [], h => exact absurd h.len (by simp)
  | [a], h => exact absurd h.len (by simp)
  | [a, b], h => exact ⟨a, b, rfl, h.at_ 0 (by simp) (by simp), h.at_ 1 (by simp) (by simp)⟩
  | a :: b :: c :: r, h => exact absurd h.len (by simp)
theorem strconv_ItoaS {i : Int} (h0 : 0 ≤ i) (h1 : i < 100) (g : AMem) (n : Nat) : FnC Tryd.prog f_strconv_Itoa [.int .i64 i] g n (fun _ => False) (.string (itoaB i)) g n := by
  refine fnC_of_below (by kernel_rfl) rfl fun ρ w cargs hrep hargs => ?_
  obtain ⟨cv, rfl, hc⟩ := vrs_one hargs
  cases hc
  have h := Any.strconv_Itoa_small lays171 i.toNat (by omega) w
  rw [show ((i.toNat : Nat) : Int) = i by omega] at h
  exact Calls.mono h fun e w' ⟨h1, h2⟩ => ⟨h1, h2 ▸ Go.RowKit.Below.refl _ _⟩
def itoaE (args : List Value) (g : AMem) (n : Nat) : Option Value := match args with
  | [.int .i64 i] => if 0 ≤ i ∧ i < 100 then some (.string (itoaB i)) else none
  | _ => none
theorem itoaE_ok : ExtOne Tryd.prog f_strconv_Itoa itoaE := fun args g n v hd he => by
  unfold itoaE at he
  split at he
  · split at he
    · rename_i hi
      cases he
      exact ⟨by kernel_rfl, strconv_ItoaS hi.1 hi.2 g n⟩
    · cases he
  · cases he
def joinB (xs : List ByteArray) (sep : ByteArray) : ByteArray := ⟨(Lib.join (xs.map (·.data.toList)) sep.data.toList).toArray⟩
theorem strings_JoinC (b o m : Nat) (xs : List ByteArray) (hm : m = xs.length) (sep : ByteArray) (g : AMem) (n : Nat) (h : aRead g 1 (.slice (some ⟨b, o, none⟩) m 1) = some (m, xs.map Value.string)) (h0 : 0 < xs.length) (hN : xs.length ≤ 140737488355328)
    (hlen : (Lib.join (xs.map (·.data.toList)) sep.data.toList).length ≤ 140737488355328) : FnC Tryd.prog f_strings_Join [.slice (some ⟨b, o, none⟩) m 1, .string sep] g n (fun _ => False) (.string (joinB xs sep)) g n := by
  refine fnC_of_below (by kernel_rfl) rfl fun ρ w cargs hrep hargs => ?_
  obtain ⟨cv, cu, rfl, hc, hu⟩ := vrs_two hargs
  cases hu
  obtain ⟨ys, e1, e2, e3⟩ := aRead_sound hrep hc h
  cases hc with
  | sliceLost _ _ _ _ hs => cases hs
  | sliceFull _ _ _ hs => cases hs
  | slice _ _ _ _ b' c hb hn hcap =>
    rcases e3 with ⟨e, _⟩ | ⟨a, c', e, hcell⟩
    · cases e
    · simp only [Value.slice.injEq, Option.some.injEq] at e
      obtain ⟨rfl, _, rfl⟩ := e
      subst hm
      refine Any.strings_Join lays156 extra156 b' o c xs sep w (fun j x hj => ?_) (hrep.old _ _ hb) hN hn hlen
      have hjl : j < xs.length := (List.getElem?_eq_some_iff.1 hj).1
      have hy : j < ys.length := by rw [← e2.len]; simpa using hjl
      have hr := e2.at_ j (by simpa using hjl) hy
      have hx : (xs.map Value.string)[j]'(by simpa using hjl) = .string x := by
        rw [List.getElem_map]; congr 1; exact (List.getElem?_eq_some_iff.1 hj).2
      rw [hx] at hr
      have hv : ys[j] = .string x := by cases hyj : ys[j] <;> rw [hyj] at hr <;> cases hr; rfl
      have := hcell j (.string x) (by rw [List.getElem?_eq_getElem hy, hv])
      have e : Addr.add ⟨b', o, none⟩ j = ⟨b', o + j, none⟩ := by
        unfold Addr.add
        by_cases h : j = 0
        · subst h; rfl
        · simp [h]
      rw [← e]; exact this
def strsOf : List Value → Option (List ByteArray)
  | [] => some []
  | .string s :: r => (strsOf r).map (s :: ·)
  | _ :: _ => none
theorem strsOf_map : ∀ (l : List Value) (xs : List ByteArray), strsOf l = some xs → l = xs.map Value.string
  | [], xs, h => by cases h; rfl
  | v :: r, xs, h => by
    cases v <;> simp only [strsOf] at h <;> try (cases h; done)
    rename_i s
    obtain ⟨ys, h1, rfl⟩ := Option.map_eq_some_iff.1 h
    rw [List.map_cons, ← strsOf_map r ys h1]
def joinE (args : List Value) (g : AMem) (n : Nat) : Option Value := match args with
  | [.slice (some ⟨b, o, none⟩) m 1, .string sep] => match aRead g 1 (.slice (some ⟨b, o, none⟩) m 1) with
    | some (_, ys) => match strsOf ys with
      | some xs => if m = xs.length ∧ 0 < m ∧ m ≤ 1000 ∧ (Lib.join (xs.map (·.data.toList)) sep.data.toList).length ≤ 140737488355328 then some (.string (joinB xs sep)) else none
      | none => none
    | none => none
  | _ => none
theorem joinE_ok : ExtOne Tryd.prog f_strings_Join joinE := fun args g n v hd he => by
  unfold joinE at he
  split at he
  · rename_i b o m sep
    split at he
    · rename_i k ys hr
      split at he
      · rename_i xs hs
        split at he
        · rename_i hc
          obtain ⟨rfl, h2, h3, h4⟩ := hc
          cases he
          have e := strsOf_map _ _ hs
          subst e
          have hk : k = xs.length := by
            rw [aRead_at, if_neg (by omega)] at hr
            unfold readR at hr
            split at hr
            · split at hr
              · simp only [Option.some.injEq, Prod.mk.injEq] at hr; exact hr.1.symm
              · cases hr
            · cases hr
          subst hk
          exact ⟨by kernel_rfl, strings_JoinC b o _ xs rfl sep g n hr h2 (by omega) h4⟩
        · cases he
      · cases he
    · cases he
  · cases he
def ext : XExt := [(f_strconv_Itoa, itoaE), (f_strings_Join, joinE)]
theorem extOk : ExtOk Tryd.prog ext := ExtOk.cons itoaE_ok (ExtOk.cons joinE_ok ExtOk.nil)
end Go.Proofs.YtfcbhgiccgommaaDoor.F9

namespace Go.Proofs.YtfcbhgiccgommaaDoor.F9
open Go Go.Proofs Go.Proofs.YtfcbhgiccgommaaDoorAbs
set_option maxHeartbeats 4000000
set_option maxRecDepth 100000
theorem take_succ' {α : Type} (zs : List α) (i : Nat) (h : i < zs.length) : zs.take (i + 1) = zs.take i ++ [zs[i]] := by rw [List.take_add_one, List.getElem?_eq_getElem h]; rfl
/-- slices.Equal of numbers. -/
theorem slices_EqualI (va vb : Value) (xs ys : List Int) (g : AMem) (n : Nat) (hl : xs.length < 4611686018427387904) (hl' : ys.length < 4611686018427387904) (ha : rdI g va xs) (hb : rdI g vb ys) : FnC Tryd.prog f_slices_Equal_S_int_int [va, vb] g n (fun _ => False) (.bool (decide (xs = ys))) g n := by
  refine fnC_of_rwp t_slices_Equal_S_int_int hm rfl fun hdom => ?_
  obtain ⟨a, ea, hva⟩ := ha.form
  obtain ⟨b, eb, hvb⟩ := hb.form
  by_cases hne : xs.length = ys.length
  case neg =>
    simp (maxSteps := 1000000) (disch := first | assumption | omega | rfl | decide) [↓rules, rules, lit_u64, aEval_U, splice_nil, splice_zero, splice_step, gset_gset, Int.ofNat_inj, U_junk, U_cells, U_cellOk, ub_and, ub_or, ub_xor, ub_andNot, ub_add, ub_sub, ub_mul, ub_shl, ub_shr, ub_shl', ub_shr', ub_eql, ub_neq, ub_lss, ub_leq, ub_gtr, ub_geq, rc_slices_Equal_S_int_int, hva, hvb, tu_S_int, hne]
    refine done_q hdom (Kept.refl hdom) ?_ ?_; · rfl
    rw [show decide (xs = ys) = false by simp only [decide_eq_false_iff_not]; intro h; exact hne (by rw [h])]; rfl
  simp (maxSteps := 1000000) (disch := first | assumption | omega | rfl | decide) [↓rules, rules, lit_u64, aEval_U, splice_nil, splice_zero, splice_step, gset_gset, Int.ofNat_inj, U_junk, U_cells, U_cellOk, ub_and, ub_or, ub_xor, ub_andNot, ub_add, ub_sub, ub_mul, ub_shl, ub_shr, ub_shl', ub_shr', ub_eql, ub_neq, ub_lss, ub_leq, ub_gtr, ub_geq, rc_slices_Equal_S_int_int, hva, hvb, tu_S_int, hne]
  rw [← hvb, show Value.slice a ys.length ea = va by rw [hva, hne]]
  refine rwp_loop (fun k l g' n' => ∃ i, k = xs.length - i ∧ i ≤ xs.length ∧ g' = g ∧ n' = n ∧ xs.take i = ys.take i ∧ l = [(0, va), (1, vb), (12, .int .i64 ys.length), (13, .int .i64 i)]) ?_ (k := xs.length) ?_
  · rintro k l g' n' ⟨i, rfl, hi, rfl, rfl, he, rfl⟩
    simp (maxSteps := 1000000) (disch := first | assumption | omega | rfl | decide) [↓rules, rules, lit_u64, aEval_U, splice_nil, splice_zero, splice_step, gset_gset, Int.ofNat_inj, U_junk, U_cells, U_cellOk, ub_and, ub_or, ub_xor, ub_andNot, ub_add, ub_sub, ub_mul, ub_shl, ub_shr, ub_shl', ub_shr', ub_eql, ub_neq, ub_lss, ub_leq, ub_gtr, ub_geq, rc_slices_Equal_S_int_intl0, hva, tu_S_int]
    refine rcond_dec (fun hlt => ?_) (fun hlt => ?_)
    · have hlt2 : i < ys.length := by omega
      have hlt1 : i < xs.length := by omega
      obtain ⟨b1, o1, h1, _, h2⟩ := ha.one hlt1
      obtain ⟨b2, o2, h3, _, h4⟩ := hb.one hlt2
      have e1 := h2 g' (Ext.refl _) Tryd.prog _ ta_int
      have e2 := h4 g' (Ext.refl _) Tryd.prog _ ta_int
      rw [← hva]
      simp (maxSteps := 1000000) (disch := first | assumption | omega | rfl | decide) [↓rules, rules, lit_u64, aEval_U, splice_nil, splice_zero, splice_step, gset_gset, Int.ofNat_inj, U_junk, U_cells, U_cellOk, ub_and, ub_or, ub_xor, ub_andNot, ub_add, ub_sub, ub_mul, ub_shl, ub_shr, ub_shl', ub_shr', ub_eql, ub_neq, ub_lss, ub_leq, ub_gtr, ub_geq, h1, h3, tu_S_int, ts_int, e1, e2, hne, hlt2]
      refine rcond_bool (fun c => ?_) (fun c => ?_)
      · refine done_q hdom (Kept.refl hdom) ?_ ?_; · rfl
        have c : xs[i] ≠ ys[i] := by simpa using c
        rw [show decide (xs = ys) = false by simp only [decide_eq_false_iff_not]; intro h; subst h; exact c rfl]; rfl
      · have c : xs[i] = ys[i] := by simpa using c
        simp (maxSteps := 1000000) (disch := first | assumption | omega | rfl | decide) [↓rules, rules, lit_u64, aEval_U, splice_nil, splice_zero, splice_step, gset_gset, Int.ofNat_inj, U_junk, U_cells, U_cellOk, ub_and, ub_or, ub_xor, ub_andNot, ub_add, ub_sub, ub_mul, ub_shl, ub_shr, ub_shl', ub_shr', ub_eql, ub_neq, ub_lss, ub_leq, ub_gtr, ub_geq, wrap_i64]
        refine ⟨ys.length - (i + 1), by omega, i + 1, rfl, by omega, ?_⟩
        refine ⟨by rw [take_succ' xs i hlt1, take_succ' ys i hlt2, he, c], ?_⟩
        simp
    · refine done_q hdom (Kept.refl hdom) ?_ ?_; · rfl
      have e1 : i = xs.length := by omega
      have e2 : i = ys.length := by omega
      rw [e1, List.take_length, ← e1, e2, List.take_length] at he
      rw [show decide (xs = ys) = true by simpa using he]; rfl
  · exact ⟨0, by simp, by simp, rfl, rfl, by simp, by rfl⟩
/-- ints: alike? -/
theorem intsI (va vb : Value) (xs ys : List Int) (g : AMem) (n : Nat) (hl : xs.length < 4611686018427387904) (hl' : ys.length < 4611686018427387904) (ha : rdI g va xs) (hb : rdI g vb ys) : FnC Tryd.prog f_reevelaw9_ints [va, vb] g n (fun _ => False) (.bool (decide (xs = ys))) g n := by
  refine fnC_of_rwp t_reevelaw9_ints hm rfl fun hdom => ?_
  obtain ⟨a, ea, hva⟩ := ha.form
  obtain ⟨b, eb, hvb⟩ := hb.form
  by_cases hne : xs.length = ys.length
  case neg =>
    simp (maxSteps := 1000000) (disch := first | assumption | omega | rfl | decide) [↓rules, rules, lit_u64, aEval_U, splice_nil, splice_zero, splice_step, gset_gset, Int.ofNat_inj, U_junk, U_cells, U_cellOk, ub_and, ub_or, ub_xor, ub_andNot, ub_add, ub_sub, ub_mul, ub_shl, ub_shr, ub_shl', ub_shr', ub_eql, ub_neq, ub_lss, ub_leq, ub_gtr, ub_geq, rc_reevelaw9_ints, hva, hvb, tu_S_int, hne]
    refine done_q hdom (Kept.refl hdom) ?_ ?_; · rfl
    rw [show decide (xs = ys) = false by simp only [decide_eq_false_iff_not]; intro h; exact hne (by rw [h])]; rfl
  simp (maxSteps := 1000000) (disch := first | assumption | omega | rfl | decide) [↓rules, rules, lit_u64, aEval_U, splice_nil, splice_zero, splice_step, gset_gset, Int.ofNat_inj, U_junk, U_cells, U_cellOk, ub_and, ub_or, ub_xor, ub_andNot, ub_add, ub_sub, ub_mul, ub_shl, ub_shr, ub_shl', ub_shr', ub_eql, ub_neq, ub_lss, ub_leq, ub_gtr, ub_geq, rc_reevelaw9_ints, hva, hvb, tu_S_int, hne]
  rw [← hvb, show Value.slice a ys.length ea = va by rw [hva, hne]]
  refine rwp_loop (fun k l g' n' => ∃ i, k = xs.length - i ∧ i ≤ xs.length ∧ g' = g ∧ n' = n ∧ xs.take i = ys.take i ∧ l = [(0, va), (1, vb), (5, .int .i64 i)]) ?_ (k := xs.length) ?_
  · rintro k l g' n' ⟨i, rfl, hi, rfl, rfl, he, rfl⟩
    simp (maxSteps := 1000000) (disch := first | assumption | omega | rfl | decide) [↓rules, rules, lit_u64, aEval_U, splice_nil, splice_zero, splice_step, gset_gset, Int.ofNat_inj, U_junk, U_cells, U_cellOk, ub_and, ub_or, ub_xor, ub_andNot, ub_add, ub_sub, ub_mul, ub_shl, ub_shr, ub_shl', ub_shr', ub_eql, ub_neq, ub_lss, ub_leq, ub_gtr, ub_geq, rc_reevelaw9_intsl0, hva, tu_S_int]
    refine rcond_dec (fun hlt => ?_) (fun hlt => ?_)
    · have hlt2 : i < ys.length := by omega
      have hlt1 : i < xs.length := by omega
      obtain ⟨b1, o1, h1, _, h2⟩ := ha.one hlt1
      obtain ⟨b2, o2, h3, _, h4⟩ := hb.one hlt2
      have e1 := h2 g' (Ext.refl _) Tryd.prog _ ta_int
      have e2 := h4 g' (Ext.refl _) Tryd.prog _ ta_int
      rw [← hva]
      simp (maxSteps := 1000000) (disch := first | assumption | omega | rfl | decide) [↓rules, rules, lit_u64, aEval_U, splice_nil, splice_zero, splice_step, gset_gset, Int.ofNat_inj, U_junk, U_cells, U_cellOk, ub_and, ub_or, ub_xor, ub_andNot, ub_add, ub_sub, ub_mul, ub_shl, ub_shr, ub_shl', ub_shr', ub_eql, ub_neq, ub_lss, ub_leq, ub_gtr, ub_geq, h1, h3, tu_S_int, ts_int, e1, e2, hne, hlt2]
      refine rcond_bool (fun c => ?_) (fun c => ?_)
      · refine done_q hdom (Kept.refl hdom) ?_ ?_; · rfl
        have c : xs[i] ≠ ys[i] := by simpa using c
        rw [show decide (xs = ys) = false by simp only [decide_eq_false_iff_not]; intro h; subst h; exact c rfl]; rfl
      · have c : xs[i] = ys[i] := by simpa using c
        simp (maxSteps := 1000000) (disch := first | assumption | omega | rfl | decide) [↓rules, rules, lit_u64, aEval_U, splice_nil, splice_zero, splice_step, gset_gset, Int.ofNat_inj, U_junk, U_cells, U_cellOk, ub_and, ub_or, ub_xor, ub_andNot, ub_add, ub_sub, ub_mul, ub_shl, ub_shr, ub_shl', ub_shr', ub_eql, ub_neq, ub_lss, ub_leq, ub_gtr, ub_geq, wrap_i64]
        refine ⟨ys.length - (i + 1), by omega, i + 1, rfl, by omega, ?_⟩
        refine ⟨by rw [take_succ' xs i hlt1, take_succ' ys i hlt2, he, c], ?_⟩
        simp
    · refine done_q hdom (Kept.refl hdom) ?_ ?_; · rfl
      have e1 : i = xs.length := by omega
      have e2 : i = ys.length := by omega
      rw [e1, List.take_length, ← e1, e2, List.take_length] at he
      rw [show decide (xs = ys) = true by simpa using he]; rfl
  · exact ⟨0, by simp, by simp, rfl, rfl, by simp, by rfl⟩
/-! ### What may be -/
def oddS (x : Int) : Bool := decide (x < 0 ∨ 15 < x)
theorem path_odd (x : Int) (g : AMem) (n : Nat) : FnC Tryd.prog f_path_Good_1 [.int .i64 x] g n (fun _ => False) (.bool (oddS x)) g n := by
  refine fnC_of_rwp t_path_Good_1 hm rfl fun hdom => ?_
  unfold oddS
  by_cases c : x < 0
  · simp (maxSteps := 1000000) (disch := first | assumption | omega | rfl | decide | simp only [fitsR, Bool.and_self]) [↓rules, rules, ↓rulesDp, rulesDq, lit_u64, Int.ofNat_inj, stops, rc_path_Good_1, q_int, q_bool, c]
    refine done_q hdom (by repeat first | exact Kept.refl hdom | refine Kept.new ?_ _ | refine Kept.drop ?_ (by omega) | refine Kept.put ?_ (by omega) (by omega) _ | refine Kept.skip ?_) rfl ?_
    first | rfl | (simp [c]; rfl)
  · simp (maxSteps := 1000000) (disch := first | assumption | omega | rfl | decide | simp only [fitsR, Bool.and_self]) [↓rules, rules, ↓rulesDp, rulesDq, lit_u64, Int.ofNat_inj, stops, rc_path_Good_1, q_int, q_bool, c]
    refine done_q hdom (by repeat first | exact Kept.refl hdom | refine Kept.new ?_ _ | refine Kept.drop ?_ (by omega) | refine Kept.put ?_ (by omega) (by omega) _ | refine Kept.skip ?_) rfl ?_
    first | rfl | (simp [c]; rfl)
def idxL (p : Int → Bool) : List Int → Int → Int
  | [], _ => -1
  | x :: r, i => if p x = true then i else idxL p r (i + 1)
theorem idxL_any (p : Int → Bool) : ∀ (xs : List Int) (i : Int), 0 ≤ i → decide (0 ≤ idxL p xs i) = xs.any p
  | [], i, h => rfl
  | x :: r, i, h => by
    unfold idxL
    cases c : p x
    · simp [c, idxL_any p r (i + 1) (by omega)]
    · simp [c, h]
theorem slices_IndexFuncI (va : Value) (xs : List Int) (p : Int → Bool) (k : FuncId) (hk : goFn Tryd.prog k = true) (hp : ∀ x g n, FnC Tryd.prog k [.int .i64 x] g n (fun _ => False) (.bool (p x)) g n) (g : AMem) (n : Nat) (hl : xs.length < 4611686018427387904) (ha : rdI g va xs) :
    FnC Tryd.prog f_slices_IndexFunc_S_int_int [va, .func (.func k) #[] #[]] g n (fun _ => False) (.int .i64 (idxL p xs 0)) g n := by
  refine fnC_of_rwp t_slices_IndexFunc_S_int_int hm rfl fun hdom => ?_
  obtain ⟨a, ea, hva⟩ := ha.form
  simp (maxSteps := 1000000) (disch := first | assumption | omega | rfl | decide | simp only [fitsR, Bool.and_self]) [↓rules, rules, ↓rulesDp, rulesDq, lit_u64, Int.ofNat_inj, stops, rc_slices_IndexFunc_S_int_int, q_int, q_bool, q_S_int, hva]
  rw [← hva]
  refine rwp_loop (fun j l g' n' => ∃ i, j = xs.length - i ∧ i ≤ xs.length ∧ g' = g ∧ n' = n ∧ idxL p xs 0 = idxL p (xs.drop i) i ∧ l = [(0, va), (1, .func (.func k) #[] #[]), (7, .int .i64 xs.length), (8, .int .i64 i)]) ?_ (k := xs.length) ?_
  · rintro j l g' n' ⟨i, rfl, hi, rfl, rfl, he, rfl⟩
    by_cases hlt : (i : Int) < (xs.length : Int)
    · have hlt1 : i < xs.length := by omega
      obtain ⟨b1, o1, h1, _, h2⟩ := ha.one hlt1
      have e1 := h2 g' (Ext.refl _) Tryd.prog _ ta_int
      rw [List.drop_eq_getElem_cons hlt1, idxL] at he
      simp (maxSteps := 1000000) (disch := first | assumption | omega | rfl | decide | simp only [fitsR, Bool.and_self]) [↓rules, rules, ↓rulesDp, rulesDq, lit_u64, Int.ofNat_inj, stops, rc_slices_IndexFunc_S_int_intl0, q_int, q_bool, q_S_int, hlt, hlt1, h1, e1]
      refine rcall_quiet hk (hp _ _ _) ?_
      have w1 : IntKind.i64.wrap ((i : Int) + 1) = ((i + 1 : Nat) : Int) := by rw [wrap_i64 (by omega) (by omega)]; omega
      cases c : p xs[i]
      · rw [c, if_neg (by simp)] at he
        simp (maxSteps := 1000000) (disch := first | assumption | omega | rfl | decide | simp only [fitsR, Bool.and_self]) [↓rules, rules, ↓rulesDp, rulesDq, lit_u64, Int.ofNat_inj, stops, q_int, q_bool, q_S_int, w1]
        exact ⟨xs.length - (i + 1), by omega, i + 1, rfl, by omega, he, by omega⟩
      · rw [c, if_pos rfl] at he
        simp (maxSteps := 1000000) (disch := first | assumption | omega | rfl | decide | simp only [fitsR, Bool.and_self]) [↓rules, rules, ↓rulesDp, rulesDq, lit_u64, Int.ofNat_inj, stops, q_int, q_bool, q_S_int]
        refine done_q hdom (by repeat first | exact Kept.refl hdom | refine Kept.new ?_ _ | refine Kept.drop ?_ (by omega) | refine Kept.put ?_ (by omega) (by omega) _ | refine Kept.skip ?_) rfl ?_
        rw [he]; rfl
    · have : i = xs.length := by omega
      subst this
      rw [List.drop_length] at he
      simp (maxSteps := 1000000) (disch := first | assumption | omega | rfl | decide | simp only [fitsR, Bool.and_self]) [↓rules, rules, ↓rulesDp, rulesDq, lit_u64, Int.ofNat_inj, stops, rc_slices_IndexFunc_S_int_intl0, q_int, q_bool, q_S_int, hlt]
      refine done_q hdom (by repeat first | exact Kept.refl hdom | refine Kept.new ?_ _ | refine Kept.drop ?_ (by omega) | refine Kept.put ?_ (by omega) (by omega) _ | refine Kept.skip ?_) rfl ?_
      rw [he]; rfl
  · exact ⟨0, by simp, by simp, rfl, rfl, by simp, by rfl⟩
theorem slices_ContainsFuncI (va : Value) (xs : List Int) (p : Int → Bool) (k : FuncId) (hk : goFn Tryd.prog k = true) (hp : ∀ x g n, FnC Tryd.prog k [.int .i64 x] g n (fun _ => False) (.bool (p x)) g n) (g : AMem) (n : Nat) (hl : xs.length < 4611686018427387904) (ha : rdI g va xs) :
    FnC Tryd.prog f_slices_ContainsFunc_S_int_int [va, .func (.func k) #[] #[]] g n (fun _ => False) (.bool (xs.any p)) g n := by
  refine fnC_of_rwp t_slices_ContainsFunc_S_int_int hm rfl fun hdom => ?_
  simp (maxSteps := 1000000) (disch := first | assumption | omega | rfl | decide | simp only [fitsR, Bool.and_self]) [↓rules, rules, ↓rulesDp, rulesDq, lit_u64, Int.ofNat_inj, stops, rc_slices_ContainsFunc_S_int_int, q_int, q_bool, q_S_int]
  refine rcall_quiet rfl (slices_IndexFuncI va xs p k hk hp _ _ hl ha) ?_
  have e := idxL_any p xs 0 (by omega)
  generalize idxL p xs 0 = z at *
  simp (maxSteps := 1000000) (disch := first | assumption | omega | rfl | decide | simp only [fitsR, Bool.and_self]) [↓rules, rules, ↓rulesDp, rulesDq, lit_u64, Int.ofNat_inj, stops, q_int, q_bool, q_S_int]
  refine done_q hdom (by repeat first | exact Kept.refl hdom | refine Kept.new ?_ _ | refine Kept.drop ?_ (by omega) | refine Kept.put ?_ (by omega) (by omega) _ | refine Kept.skip ?_) rfl ?_
  rw [← e]; rfl
def goodP (xs : List Int) : Bool := decide (1 ≤ xs.length ∧ xs.length ≤ 3) && !xs.any oddS
abbrev pv (va : Value) : Value := .agg #[va]
theorem path_Good (va : Value) (xs : List Int) (g : AMem) (n : Nat) (hl : xs.length < 4611686018427387904) (ha : rdI g va xs) : FnC Tryd.prog f_path_Good [pv va] g n (fun _ => False) (.bool (goodP xs)) g n := by
  refine fnC_of_rwp t_path_Good hm rfl fun hdom => ?_
  obtain ⟨a, ea, hva⟩ := ha.form
  have k1 := (Kept.refl hdom).new (.row [va] true)
  unfold goodP
  by_cases c1 : (1 : Int) ≤ xs.length
  case neg =>
    rw [decide_eq_false (show ¬ (1 ≤ xs.length ∧ xs.length ≤ 3) by omega), Bool.false_and]
    simp (maxSteps := 1000000) (disch := first | assumption | omega | rfl | decide | simp only [fitsR, Bool.and_self]) [↓rules, rules, ↓rulesDp, rulesDq, lit_u64, Int.ofNat_inj, stops, rc_path_Good, q_int, q_bool, q_S_int, q_path_Path, hva, c1]
    exact done_q hdom (hva ▸ k1) rfl rfl
  by_cases c2 : (xs.length : Int) ≤ 3
  case neg =>
    rw [decide_eq_false (show ¬ (1 ≤ xs.length ∧ xs.length ≤ 3) by omega), Bool.false_and]
    simp (maxSteps := 1000000) (disch := first | assumption | omega | rfl | decide | simp only [fitsR, Bool.and_self]) [↓rules, rules, ↓rulesDp, rulesDq, lit_u64, Int.ofNat_inj, stops, rc_path_Good, q_int, q_bool, q_S_int, q_path_Path, hva, c1, c2]
    exact done_q hdom (hva ▸ k1) rfl rfl
  rw [decide_eq_true (show (1 ≤ xs.length ∧ xs.length ≤ 3) by omega), Bool.true_and]
  simp (maxSteps := 1000000) (disch := first | assumption | omega | rfl | decide | simp only [fitsR, Bool.and_self]) [↓rules, rules, ↓rulesDp, rulesDq, lit_u64, Int.ofNat_inj, stops, rc_path_Good, q_int, q_bool, q_S_int, q_path_Path, hva, c1, c2]
  rw [← hva]
  refine rcall_quiet rfl (slices_ContainsFuncI va xs oddS _ (by kernel_rfl) path_odd _ _ hl (ha.ext (k1.ext hdom))) ?_
  simp (maxSteps := 1000000) (disch := first | assumption | omega | rfl | decide | simp only [fitsR, Bool.and_self]) [↓rules, rules, ↓rulesDp, rulesDq, lit_u64, Int.ofNat_inj, stops, q_int, q_bool, q_S_int, q_path_Path]
  exact done_q hdom k1 rfl rfl
/-! ### Its word -/
def wordL : List Int → Nat → BitVec 64 → BitVec 64
  | [], _, w => w
  | x :: r, i, w => wordL r (i + 1) (w ||| BitVec.ofInt 64 x <<< (4 * (i + 1)))
def wordP (xs : List Int) : BitVec 64 × Bool := if goodP xs = true then (wordL xs 0 (BitVec.ofNat 64 xs.length), true) else (0#64, false)
theorem path_Word (va : Value) (xs : List Int) (g : AMem) (n : Nat) (hl : xs.length < 4611686018427387904) (ha : rdI g va xs) : FnC Tryd.prog f_path_Word [pv va] g n (fun _ => False) (.tuple #[U (wordP xs).1, .bool (wordP xs).2]) g n := by
  refine fnC_of_rwp t_path_Word hm rfl fun hdom => ?_
  obtain ⟨a, ea, hva⟩ := ha.form
  have k1 := (Kept.refl hdom).new (.row [va] true)
  simp (maxSteps := 1000000) (disch := first | assumption | omega | rfl | decide | simp only [fitsR, Bool.and_self]) [↓rules, rules, ↓rulesDp, rulesDq, lit_u64, Int.ofNat_inj, stops, rc_path_Word, q_int, q_bool, q_S_int, q_path_Path, q_uint64]
  have ha1 := ha.ext (k1.ext hdom)
  refine rcall_quiet rfl (path_Good va xs _ _ hl ha1) ?_
  unfold wordP
  cases cg : goodP xs
  · simp (maxSteps := 1000000) (disch := first | assumption | omega | rfl | decide | simp only [fitsR, Bool.and_self]) [↓rules, rules, ↓rulesDp, rulesDq, lit_u64, Int.ofNat_inj, stops, q_int, q_bool, q_S_int, q_path_Path, q_uint64]
    exact done_q hdom k1 rfl rfl
  have h3 : 1 ≤ xs.length ∧ xs.length ≤ 3 := by
    unfold goodP at cg
    rw [Bool.and_eq_true] at cg
    exact of_decide_eq_true cg.1
  have e1 : BitVec.ofInt 64 (xs.length : Int) = BitVec.ofNat 64 xs.length := BitVec.ofInt_natCast _ _
  simp (maxSteps := 1000000) (disch := first | assumption | omega | rfl | decide | simp only [fitsR, Bool.and_self]) [↓rules, rules, ↓rulesDp, rulesDq, lit_u64, Int.ofNat_inj, stops, q_int, q_bool, q_S_int, q_path_Path, q_uint64, hva, conv_to_u64 tu_int tu_uint64, e1]
  rw [← hva]
  generalize hG : gset g n (some (.row [va] true)) = G at *
  refine rwp_loop (fun j l g' n' => ∃ i w, j = xs.length - i ∧ i ≤ xs.length ∧ g' = G ∧ n' = n + 1 ∧ wordL xs 0 (BitVec.ofNat 64 xs.length) = wordL (xs.drop i) i w ∧ l = [(4, U w), (15, va), (16, .int .i64 xs.length), (17, .int .i64 i)]) ?_ (k := xs.length) ?_
  · rintro j l g' n' ⟨i, w, rfl, hi, rfl, rfl, he, rfl⟩
    by_cases hlt : (i : Int) < (xs.length : Int)
    · have hlt1 : i < xs.length := by omega
      obtain ⟨b1, o1, h1, _, h2⟩ := ha1.one hlt1
      have e2 := h2 g' (Ext.refl _) Tryd.prog _ ta_int
      rw [List.drop_eq_getElem_cons hlt1, wordL] at he
      have w1 : IntKind.i64.wrap ((i : Int) + 1) = ((i + 1 : Nat) : Int) := by rw [wrap_i64 (by omega) (by omega)]; omega
      obtain ⟨m, hm⟩ : ∃ m, m = 4 * (i + 1) := ⟨_, rfl⟩
      have w2 : IntKind.i64.wrap (4 * ((i : Int) + 1)) = (m : Int) := by rw [wrap_i64 (by omega) (by omega)]; omega
      rw [← hm] at he
      have hm64 : m < 64 := by omega
      simp (maxSteps := 1000000) (disch := first | assumption | omega | rfl | decide | simp only [fitsR, Bool.and_self]) [↓rules, rules, ↓rulesDp, rulesDq, lit_u64, Int.ofNat_inj, stops, rc_path_Wordl0, q_int, q_bool, q_S_int, q_path_Path, q_uint64, hlt, hlt1, h1, e2, conv_to_u64 tu_int tu_uint64, w1, w2]
      exact ⟨xs.length - (i + 1), by omega, i + 1, rfl, by omega, _, he, rfl, by omega⟩
    · have : i = xs.length := by omega
      subst this
      rw [List.drop_length] at he
      simp (maxSteps := 1000000) (disch := first | assumption | omega | rfl | decide | simp only [fitsR, Bool.and_self]) [↓rules, rules, ↓rulesDp, rulesDq, lit_u64, Int.ofNat_inj, stops, rc_path_Wordl0, q_int, q_bool, q_S_int, q_path_Path, q_uint64, hlt]
      refine done_q hdom k1 rfl ?_
      rw [he]; rfl
  · exact ⟨0, _, by simp, by simp, rfl, rfl, by rw [List.drop_zero], rfl⟩
end Go.Proofs.YtfcbhgiccgommaaDoor.F9

namespace Go.Proofs.YtfcbhgiccgommaaDoor.F9
open Go Go.Proofs Go.Proofs.YtfcbhgiccgommaaDoorAbs
set_option maxHeartbeats 4000000
set_option maxRecDepth 100000
theorem goodP_len {xs : List Int} (h : goodP xs = true) : 1 ≤ xs.length ∧ xs.length ≤ 3 := by
  unfold goodP at h
  rw [Bool.and_eq_true] at h
  exact of_decide_eq_true h.1
theorem goodP_mem {xs : List Int} (h : goodP xs = true) : ∀ x ∈ xs, 0 ≤ x ∧ x ≤ 15 := by
  unfold goodP at h
  rw [Bool.and_eq_true, Bool.not_eq_true', List.any_eq_false] at h
  intro x hx
  have := h.2 x hx
  unfold oddS at this
  simp only [decide_eq_true_eq] at this
  omega
/-! ### Its text -/
def dotB : ByteArray := ⟨#[46]⟩
def textP (xs : List Int) : ByteArray := if goodP xs = true then joinB (xs.map itoaB) dotB else ⟨#[]⟩
theorem dec_two {x : Int} (h0 : 0 ≤ x) (h1 : x ≤ 15) : (itoaB x).data.toList.length ≤ 2 := by
  have : x.toNat < 16 := by omega
  unfold itoaB
  simp only
  unfold Lib.decDigits
  split
  · simp
  · unfold Lib.decDigits
    rw [dif_pos (by omega)]
    simp
theorem join_len (xs : List Int) (h : xs.length ≤ 3) (hm : ∀ x ∈ xs, 0 ≤ x ∧ x ≤ 15) : (Lib.join ((xs.map itoaB).map (·.data.toList)) dotB.data.toList).length ≤ 8 := by
  have e : dotB.data.toList.length = 1 := rfl
  match xs, h, hm with
  | [], _, _ => simp [Lib.join_nil]
  | [a], _, hm =>
    have ha := hm a (by simp)
    have := dec_two ha.1 ha.2
    simp only [List.map_cons, List.map_nil, Lib.join_one]; omega
  | [a, b], _, hm =>
    have ha := hm a (by simp)
    have hb := hm b (by simp)
    have h1 := dec_two ha.1 ha.2
    have h2 := dec_two hb.1 hb.2
    simp only [List.map_cons, List.map_nil, Lib.join_cons, Lib.joinTail, List.length_append, List.flatten_cons, List.flatten_nil, List.length_nil]; omega
  | [a, b, c], _, hm =>
    have ha := hm a (by simp)
    have hb := hm b (by simp)
    have hc := hm c (by simp)
    have h1 := dec_two ha.1 ha.2
    have h2 := dec_two hb.1 hb.2
    have h3 := dec_two hc.1 hc.2
    simp only [List.map_cons, List.map_nil, Lib.join_cons, Lib.joinTail, List.length_append, List.flatten_cons, List.flatten_nil, List.length_nil]; omega
abbrev strV (x : Int) : Value := .string (itoaB x)
theorem path_Text (va : Value) (xs : List Int) (g : AMem) (n : Nat) (hl : xs.length < 4611686018427387904) (ha : rdI g va xs) : FnC Tryd.prog f_path_Text [pv va] g n (fun _ => False) (.string (textP xs)) g n := by
  refine fnC_of_rwp t_path_Text hm rfl fun hdom => ?_
  obtain ⟨a, ea, hva⟩ := ha.form
  have k1 := (Kept.refl hdom).new (.row [va] true)
  simp (maxSteps := 1000000) (disch := first | assumption | omega | rfl | decide | simp only [fitsR, Bool.and_self]) [↓rules, rules, ↓rulesDp, rulesDq, lit_u64, Int.ofNat_inj, stops, rc_path_Text, q_int, q_bool, q_string, q_S_int, q_path_Path, q_S_string]
  have ha1 := ha.ext (k1.ext hdom)
  refine rcall_quiet rfl (path_Good va xs _ _ hl ha1) ?_
  unfold textP
  cases cg : goodP xs
  · simp (maxSteps := 1000000) (disch := first | assumption | omega | rfl | decide | simp only [fitsR, Bool.and_self]) [↓rules, rules, ↓rulesDp, rulesDq, lit_u64, Int.ofNat_inj, stops, q_int, q_bool, q_string, q_S_int, q_path_Path, q_S_string]
    exact done_q hdom k1 rfl rfl
  have h3 := goodP_len cg
  have hmem := goodP_mem cg
  simp (maxSteps := 1000000) (disch := first | assumption | omega | rfl | decide | simp only [fitsR, Bool.and_self]) [↓rules, rules, ↓rulesDp, rulesDq, lit_u64, Int.ofNat_inj, stops, q_int, q_bool, q_string, q_S_int, q_path_Path, q_S_string, hva]
  rw [← hva]
  refine rwp_loop (fun j l g' n' => ∃ i v, j = xs.length - i ∧ i ≤ xs.length ∧ Kept g n g' n' ∧ (i = 0 ∧ v = .slice none 0 0 ∨ 0 < i ∧ ∃ b, n ≤ b ∧ g' b = some (.row ((xs.take i).map strV) true) ∧ v = .slice (some ⟨b, 0, none⟩) i 1) ∧ l = [(3, v), (10, va), (11, .int .i64 xs.length), (12, .int .i64 i)]) ?_ (k := xs.length) ?_
  · rintro j l g' n' ⟨i, v, rfl, hi, hk, hv, rfl⟩
    by_cases hlt : (i : Int) < (xs.length : Int)
    · have hlt1 : i < xs.length := by omega
      have hx := hmem xs[i] (List.getElem_mem hlt1)
      obtain ⟨b1, o1, h1, _, h2⟩ := (ha.ext (hk.ext hdom)).one hlt1
      have e2 := h2 g' (Ext.refl _) Tryd.prog _ ta_int
      have w1 : IntKind.i64.wrap ((i : Int) + 1) = ((i + 1 : Nat) : Int) := by rw [wrap_i64 (by omega) (by omega)]; omega
      simp (maxSteps := 1000000) (disch := first | assumption | omega | rfl | decide | simp only [fitsR, Bool.and_self]) [↓rules, rules, ↓rulesDp, rulesDq, lit_u64, Int.ofNat_inj, stops, rc_path_Textl0, q_int, q_bool, q_string, q_S_int, q_path_Path, q_S_string, hlt, hlt1, h1, e2]
      refine rcall_quiet rfl (strconv_ItoaS hx.1 (by omega) _ _) ?_
      rcases hv with ⟨rfl, rfl⟩ | ⟨h0, b, hb, hgb, rfl⟩
      · have hx0 : (xs.take (0 + 1)).map strV = [strV (xs[0]'(by omega))] := by rw [take_succ' xs 0 (by omega)]; rfl
        have hn := hk.le
        simp (maxSteps := 1000000) (disch := first | assumption | omega | rfl | decide | simp only [fitsR, Bool.and_self]) [↓rules, rules, ↓rulesDp, rulesDq, lit_u64, Int.ofNat_inj, stops, q_int, q_bool, q_string, q_S_int, q_path_Path, q_S_string]
        refine ⟨xs.length - 1, by omega, 1, rfl, by omega, (hk.new _).new _, _, .inr ⟨by decide, n' + 1, by omega, ?_, rfl⟩, rfl, by rw [wrap_i64 (by decide) (by decide)]; rfl⟩
        rw [if_pos rfl]
        simp only [Nat.zero_add, List.map_take] at hx0
        rw [hx0]
      · have hbn : ¬ b = n' := by have := hk.dom b (by rw [hgb]; simp); omega
        have hn := hk.le
        have c1 : (i + 1) * 16 ≤ 70368744177664 := by omega
        have c2 : i ≤ 70368744177663 := by omega
        have hlen : (List.take i (List.map strV xs)).length = i := by rw [List.length_take, List.length_map]; omega
        simp (maxSteps := 1000000) (disch := first | assumption | omega | rfl | decide | simp only [fitsR, Bool.and_self]) [↓rules, rules, ↓rulesDp, rulesDq, lit_u64, Int.ofNat_inj, stops, q_int, q_bool, q_string, q_S_int, q_path_Path, q_S_string, w1, hgb, hbn, c1, c2, hlen]
        refine ⟨by omega, xs.length - (i + 1), by omega, i + 1, rfl, by omega, ((hk.new _).drop (by omega)).new _, _, .inr ⟨by omega, n' + 1, by omega, ?_, rfl⟩, rfl, by omega⟩
        rw [if_pos rfl, ← List.map_take, ← List.map_take, take_succ' xs i hlt1, List.map_append]
        rfl
    · have : i = xs.length := by omega
      subst this
      rcases hv with ⟨h0, _⟩ | ⟨h0, b, hb, hgb, rfl⟩
      · omega
      simp (maxSteps := 1000000) (disch := first | assumption | omega | rfl | decide | simp only [fitsR, Bool.and_self]) [↓rules, rules, ↓rulesDp, rulesDq, lit_u64, Int.ofNat_inj, stops, rc_path_Textl0, q_int, q_bool, q_string, q_S_int, q_path_Path, q_S_string, hlt]
      rw [List.take_length] at hgb
      refine rcall_quiet rfl (strings_JoinC b 0 xs.length (xs.map itoaB) (by simp) dotB g' n' ?_ (by simp; omega) (by simp; omega) ?_) ?_
      · rw [aRead_at, if_neg (by omega), hgb, readR_row, if_pos (by simp)]
        rw [List.drop_zero, Nat.mul_one, List.take_of_length_le (by simp), List.map_map]
        rfl
      · have := join_len xs h3.2 hmem
        omega
      · simp (maxSteps := 1000000) (disch := first | assumption | omega | rfl | decide | simp only [fitsR, Bool.and_self]) [↓rules, rules, ↓rulesDp, rulesDq, lit_u64, Int.ofNat_inj, stops, q_int, q_bool, q_string, q_S_int, q_path_Path, q_S_string]
        exact done_q hdom hk rfl rfl
  · exact ⟨0, _, by simp, by simp, k1, .inl ⟨rfl, rfl⟩, rfl⟩
end Go.Proofs.YtfcbhgiccgommaaDoor.F9

namespace Go.Proofs.YtfcbhgiccgommaaDoor.F9
open Go Go.Proofs Go.Proofs.YtfcbhgiccgommaaDoorAbs
set_option maxHeartbeats 8000000
set_option maxRecDepth 100000
theorem path_Begins (va vb : Value) (xs ys : List Int) (g : AMem) (n : Nat) (h0 : 0 < xs.length) (hl : xs.length < 4611686018427387904) (hl' : ys.length < 4611686018427387904) (ha : rdI g va xs) (hb : rdI g vb ys) : FnC Tryd.prog f_path_Begins [pv va, pv vb] g n (fun _ => False) (.bool (decide (ys.length ≤ xs.length ∧ xs.take ys.length = ys))) g n := by
  refine fnC_of_rwp t_path_Begins hm rfl fun hdom => ?_
  obtain ⟨b, o, hva, _, _⟩ := rd_elems ha h0
  obtain ⟨pb, eb, hvb⟩ := hb.form
  have k1 := ((Kept.refl hdom).new (.row [va] true)).new (.row [vb] true)
  by_cases c1 : (ys.length : Int) ≤ xs.length
  case neg =>
    rw [decide_eq_false (fun h => c1 (by omega))]
    simp (maxSteps := 1000000) (disch := first | assumption | omega | rfl | decide | simp only [fitsR, Bool.and_self]) [↓rules, rules, ↓rulesDp, rulesDq, lit_u64, Int.ofNat_inj, stops, rc_path_Begins, q_int, q_bool, q_S_int, q_path_Path, hva, hvb, c1]
    exact done_q hdom (hva ▸ hvb ▸ k1) rfl rfl
  have c2 : ys.length ≤ xs.length := by omega
  subst hva
  have hp := rd_part (enc := fun x => [Value.int .i64 x]) (fun _ => rfl) ha 0 ys.length (by omega)
  simp only [Nat.zero_mul, Nat.add_zero, List.drop_zero] at hp
  simp (maxSteps := 1000000) (disch := first | assumption | omega | rfl | decide | simp only [fitsR, Bool.and_self]) [↓rules, rules, ↓rulesDp, rulesDq, lit_u64, Int.ofNat_inj, stops, rc_path_Begins, q_int, q_bool, q_S_int, q_path_Path, hvb, c1, c2]
  rw [← hvb]
  refine rcall_quiet rfl (slices_EqualI _ _ _ _ _ _ (by rw [List.length_take]; omega) hl' (hp.ext (k1.ext hdom)) (hb.ext (k1.ext hdom))) ?_
  generalize decide (xs.take ys.length = ys) = r
  simp (maxSteps := 1000000) (disch := first | assumption | omega | rfl | decide | simp only [fitsR, Bool.and_self]) [↓rules, rules, ↓rulesDp, rulesDq, lit_u64, Int.ofNat_inj, stops, q_int, q_bool, q_S_int, q_path_Path]
  exact done_q hdom k1 rfl rfl
theorem awake9_run : xfnE Tryd.prog tab ext 200 20 f_reevelaw9_awake [] (fun _ => none) 0 = some ⟨.bool true, fun _ => none, 0, 0, true⟩ := by kernel_rfl
theorem awake9 (g : AMem) (n : Nat) : FnC Tryd.prog f_reevelaw9_awake [] g n (fun _ => False) (.bool true) g n :=
  FnC.closed (xfnE_ok hm tabOk extOk 200 20 _ _ _ _ _ (fun _ h => absurd rfl h) awake9_run).2.1 rfl rfl g n
/-! ### One word, one text -/
theorem pre_both {xs ys : List Int} : (ys.length ≤ xs.length ∧ xs.take ys.length = ys) ∧ (xs.length ≤ ys.length ∧ ys.take xs.length = xs) ↔ xs = ys := by
  constructor
  · rintro ⟨⟨h1, h2⟩, h3, h4⟩
    have : xs.length = ys.length := by omega
    rw [← this, List.take_length] at h2
    exact h2
  · rintro rfl
    simp
def nibs : Nat → Nat → List Int
  | 0, _ => []
  | k + 1, w => ((w % 16 : Nat) : Int) :: nibs k (w / 16)
def unword (w : BitVec 64) : List Int := nibs (w.toNat % 16) (w.toNat / 16)
abbrev i16 (x : Fin 16) : Int := ((x.val : Nat) : Int)
theorem to16 {c : Int} (h : 0 ≤ c ∧ c ≤ 15) : ∃ x : Fin 16, c = i16 x := ⟨⟨c.toNat, by omega⟩, by simp only [i16]; omega⟩
theorem unword1 : ∀ a : Fin 16, unword (wordL [i16 a] 0 1#64) = [i16 a] := by decide +kernel
theorem unword2 : ∀ a b : Fin 16, unword (wordL [i16 a, i16 b] 0 2#64) = [i16 a, i16 b] := by decide +kernel
theorem unword3 : ∀ a b c : Fin 16, unword (wordL [i16 a, i16 b, i16 c] 0 3#64) = [i16 a, i16 b, i16 c] := by decide +kernel
theorem unword_word {xs : List Int} (h : goodP xs = true) : unword (wordL xs 0 (BitVec.ofNat 64 xs.length)) = xs := by
  have hl := goodP_len h
  have hm := goodP_mem h
  match xs, hl, hm with
  | [a], _, hm =>
    obtain ⟨x, rfl⟩ := to16 (hm a (by simp))
    exact unword1 x
  | [a, b], _, hm =>
    obtain ⟨x, rfl⟩ := to16 (hm a (by simp))
    obtain ⟨y, rfl⟩ := to16 (hm b (by simp))
    exact unword2 x y
  | [a, b, c], _, hm =>
    obtain ⟨x, rfl⟩ := to16 (hm a (by simp))
    obtain ⟨y, rfl⟩ := to16 (hm b (by simp))
    obtain ⟨z, rfl⟩ := to16 (hm c (by simp))
    exact unword3 x y z
/-- A text, read. -/
def untext : List UInt8 → Nat → List Int
  | [], a => [((a : Nat) : Int)]
  | c :: r, a => if c = 46 then ((a : Nat) : Int) :: untext r 0 else untext r (10 * a + (c.toNat - 48))
def decs (x : Nat) : List UInt8 := if x < 10 then [UInt8.ofNat (48 + x)] else [49, UInt8.ofNat (48 + x % 10)]
theorem itoa_decs (x : Fin 16) : (itoaB (i16 x)).data.toList = decs x.val := by
  have hx := x.isLt
  unfold itoaB decs
  rw [show (i16 x).toNat = x.val from rfl]
  simp only
  unfold Lib.decDigits
  split
  · rfl
  · unfold Lib.decDigits
    have : x.val / 10 = 1 := by omega
    rw [dif_pos (by omega), this]
    rfl
theorem untext1 : ∀ a : Fin 16, untext (decs a.val) 0 = [i16 a] := by decide +kernel
theorem untext2 : ∀ a b : Fin 16, untext (decs a.val ++ 46 :: decs b.val) 0 = [i16 a, i16 b] := by decide +kernel
theorem untext3 : ∀ a b c : Fin 16, untext (decs a.val ++ 46 :: (decs b.val ++ 46 :: decs c.val)) 0 = [i16 a, i16 b, i16 c] := by decide +kernel
theorem joinB_list (xs : List ByteArray) (sep : ByteArray) : (joinB xs sep).data.toList = Lib.join (xs.map (·.data.toList)) sep.data.toList := rfl
theorem untext_text {xs : List Int} (h : goodP xs = true) : untext (joinB (xs.map itoaB) dotB).data.toList 0 = xs := by
  have hl := goodP_len h
  have hm := goodP_mem h
  rw [joinB_list]
  match xs, hl, hm with
  | [a], _, hm =>
    obtain ⟨x, rfl⟩ := to16 (hm a (by simp))
    simp only [List.map_cons, List.map_nil, Lib.join_one, itoa_decs]
    exact untext1 x
  | [a, b], _, hm =>
    obtain ⟨x, rfl⟩ := to16 (hm a (by simp))
    obtain ⟨y, rfl⟩ := to16 (hm b (by simp))
    simp only [List.map_cons, List.map_nil, Lib.join_cons, Lib.joinTail, List.flatten_cons, List.flatten_nil, List.append_nil, itoa_decs]
    exact untext2 x y
  | [a, b, c], _, hm =>
    obtain ⟨x, rfl⟩ := to16 (hm a (by simp))
    obtain ⟨y, rfl⟩ := to16 (hm b (by simp))
    obtain ⟨z, rfl⟩ := to16 (hm c (by simp))
    simp only [List.map_cons, List.map_nil, Lib.join_cons, Lib.joinTail, List.flatten_cons, List.flatten_nil, List.append_nil, itoa_decs]
    exact untext3 x y z
theorem bin_eql_string {P : Program} {t : TypeId} {xo yo : Operand} {a b : ByteArray} (hu : P.underlying t = some .string) : aBin P .eql t xo yo (.string a) (.string b) = some (.bool (a == b)) := by
  have hg : Sem.pureRun P (eqGuard .eql t xo yo (.string a) (.string b)) = some () := rfl
  simp only [aBin, show pureV (.string a) = true from rfl, show pureV (.string b) = true from rfl, and_self, if_true, pureFlat, Sem.pureRun_bind, hg, Option.bind_some, binOp, Op.stringOp, Sem.pureRun_pure]
  rw [Go.beq_toListBytes]
  rfl
theorem beqS (a b : ByteArray) : (a == b) = true ↔ a = b := by
  obtain ⟨x⟩ := a
  obtain ⟨y⟩ := b
  show (x == y) = true ↔ _
  rw [beq_iff_eq, ByteArray.mk.injEq]
theorem beqb (x : Bool) : (x == x) = true := by cases x <;> rfl
theorem PathOne (va : Value) (xs : List Int) (vb : Value) (ys : List Int) (g : AMem) (n : Nat) (hdom : ∀ i, g i ≠ none → i < n) (ha : rdI g va xs) (hb : rdI g vb ys) : FnC Tryd.prog f_reevelaw9_PathOne [va, vb] g n (fun _ => False) (.bool true) g n := by
  refine fnC_of_rwp t_reevelaw9_PathOne hm rfl fun hdom => ?_
  obtain ⟨pa, ea, hva⟩ := ha.form
  obtain ⟨pb, eb, hvb⟩ := hb.form
  simp (maxSteps := 1000000) (disch := first | assumption | omega | rfl | decide | simp only [fitsR, Bool.and_self]) [↓rules, rules, ↓rulesDp, rulesDq, lit_u64, Int.ofNat_inj, stops, rc_reevelaw9_PathOne, q_int, q_bool, q_string, q_S_int, q_path_Path, q_uint64]
  refine rcall_quiet rfl (awake9 _ _) ?_
  have k1 := ((((Kept.refl hdom).new (.row [.slice none 0 0] true)).new (.row [.slice none 0 0] true)).put (b := n) (by omega) (by omega) (.row [va] true)).put (b := n + 1) (by omega) (by omega) (.row [vb] true)
  have nn1 : n ≤ n + 1 := by omega
  by_cases c1 : (9 : Int) < xs.length
  · simp (maxSteps := 1000000) (disch := first | assumption | omega | rfl | decide | simp only [fitsR, Bool.and_self]) [↓rules, rules, ↓rulesDp, rulesDq, lit_u64, Int.ofNat_inj, stops, q_int, q_bool, q_string, q_S_int, q_path_Path, q_uint64, nn1, hva, hvb, c1]
    exact done_q hdom (hva ▸ hvb ▸ k1) rfl rfl
  by_cases c2 : (9 : Int) < ys.length
  · simp (maxSteps := 1000000) (disch := first | assumption | omega | rfl | decide | simp only [fitsR, Bool.and_self]) [↓rules, rules, ↓rulesDp, rulesDq, lit_u64, Int.ofNat_inj, stops, q_int, q_bool, q_string, q_S_int, q_path_Path, q_uint64, nn1, hva, hvb, c1, c2]
    exact done_q hdom (hva ▸ hvb ▸ k1) rfl rfl
  have l1 : xs.length < 4611686018427387904 := by omega
  have l2 : ys.length < 4611686018427387904 := by omega
  have ra := ha.ext (k1.ext hdom)
  have rb := hb.ext (k1.ext hdom)
  simp (maxSteps := 1000000) (disch := first | assumption | omega | rfl | decide | simp only [fitsR, Bool.and_self]) [↓rules, rules, ↓rulesDp, rulesDq, lit_u64, Int.ofNat_inj, stops, q_int, q_bool, q_string, q_S_int, q_path_Path, q_uint64, nn1, hva, hvb, c1, c2]
  rw [← hva, ← hvb]
  have h0 : gset (gset (gset (gset g n (some (.row [.slice none 0 0] true))) (n + 1) (some (.row [.slice none 0 0] true))) n (some (.row [va] true))) (n + 1) (some (.row [vb] true)) n = some (.row [va] true) := by
    rw [gset_ne _ _ (by omega), gset_same]
  have h1 := gset_same (gset (gset (gset g n (some (.row [.slice none 0 0] true))) (n + 1) (some (.row [.slice none 0 0] true))) n (some (.row [va] true))) (n + 1) (some (.row [vb] true))
  generalize gset (gset (gset (gset g n (some (.row [.slice none 0 0] true))) (n + 1) (some (.row [.slice none 0 0] true))) n (some (.row [va] true))) (n + 1) (some (.row [vb] true)) = G at *
  clear hva hvb
  refine rcall_quiet rfl (path_Good va xs _ _ l1 ra) ?_
  cases cg : goodP xs
  · simp (maxSteps := 1000000) (disch := first | assumption | omega | rfl | decide | simp only [fitsR, Bool.and_self]) [↓rules, rules, ↓rulesDp, rulesDq, lit_u64, Int.ofNat_inj, stops, q_int, q_bool, q_string, q_S_int, q_path_Path, q_uint64, h0, h1]
    exact done_q hdom k1 rfl rfl
  simp (maxSteps := 1000000) (disch := first | assumption | omega | rfl | decide | simp only [fitsR, Bool.and_self]) [↓rules, rules, ↓rulesDp, rulesDq, lit_u64, Int.ofNat_inj, stops, q_int, q_bool, q_string, q_S_int, q_path_Path, q_uint64, h0, h1]
  refine rcall_quiet rfl (path_Good vb ys _ _ l2 rb) ?_
  cases cg' : goodP ys
  · simp (maxSteps := 1000000) (disch := first | assumption | omega | rfl | decide | simp only [fitsR, Bool.and_self]) [↓rules, rules, ↓rulesDp, rulesDq, lit_u64, Int.ofNat_inj, stops, q_int, q_bool, q_string, q_S_int, q_path_Path, q_uint64, h0, h1]
    exact done_q hdom k1 rfl rfl
  have p1 := goodP_len cg
  have p2 := goodP_len cg'
  have u1 := unword_word cg
  have u2 := unword_word cg'
  have t1 := untext_text cg
  have t2 := untext_text cg'
  have eb := @pre_both xs ys
  simp (maxSteps := 1000000) (disch := first | assumption | omega | rfl | decide | simp only [fitsR, Bool.and_self]) [↓rules, rules, ↓rulesDp, rulesDq, lit_u64, Int.ofNat_inj, stops, q_int, q_bool, q_string, q_S_int, q_path_Path, q_uint64, h0, h1]
  refine rcall_quiet rfl (path_Word va xs _ _ l1 ra) ?_
  rw [show wordP xs = (wordL xs 0 (BitVec.ofNat 64 xs.length), true) from if_pos cg]
  simp (maxSteps := 1000000) (disch := first | assumption | omega | rfl | decide | simp only [fitsR, Bool.and_self]) [↓rules, rules, ↓rulesDp, rulesDq, lit_u64, Int.ofNat_inj, stops, q_int, q_bool, q_string, q_S_int, q_path_Path, q_uint64, h0, h1]
  refine rcall_quiet rfl (path_Word vb ys _ _ l2 rb) ?_
  rw [show wordP ys = (wordL ys 0 (BitVec.ofNat 64 ys.length), true) from if_pos cg']
  have dw : decide (wordL xs 0 (BitVec.ofNat 64 xs.length) = wordL ys 0 (BitVec.ofNat 64 ys.length)) = decide (xs = ys) := by
    rw [decide_eq_decide]
    exact ⟨fun h => by rw [← u1, ← u2, h], fun h => by rw [h]⟩
  have dt : (joinB (xs.map itoaB) dotB == joinB (ys.map itoaB) dotB) = decide (xs = ys) := by
    rw [Bool.eq_iff_iff, beqS, decide_eq_true_eq]
    exact ⟨fun h => by rw [← t1, ← t2, h], fun h => by rw [h]⟩
  have db : (decide (ys.length ≤ xs.length ∧ xs.take ys.length = ys) && decide (xs.length ≤ ys.length ∧ ys.take xs.length = xs)) = decide (xs = ys) := by
    rw [← Bool.decide_and, decide_eq_decide]; exact eb
  generalize wordL xs 0 (BitVec.ofNat 64 xs.length) = wx at *
  generalize wordL ys 0 (BitVec.ofNat 64 ys.length) = wy at *
  simp (maxSteps := 1000000) (disch := first | assumption | omega | rfl | decide | simp only [fitsR, Bool.and_self]) [↓rules, rules, ↓rulesDp, rulesDq, lit_u64, Int.ofNat_inj, stops, q_int, q_bool, q_string, q_S_int, q_path_Path, q_uint64, h0, h1]
  refine rcall_quiet rfl (intsI va vb xs ys _ _ l1 l2 ra rb) ?_
  simp (maxSteps := 1000000) (disch := first | assumption | omega | rfl | decide | simp only [fitsR, Bool.and_self]) [↓rules, rules, ↓rulesDp, rulesDq, lit_u64, Int.ofNat_inj, stops, q_int, q_bool, q_string, q_S_int, q_path_Path, q_uint64, h0, h1, dw, bin_eql_bool tu_bool, beqb]
  refine rcall_quiet rfl (path_Text va xs _ _ l1 ra) ?_
  simp (maxSteps := 1000000) (disch := first | assumption | omega | rfl | decide | simp only [fitsR, Bool.and_self]) [↓rules, rules, ↓rulesDp, rulesDq, lit_u64, Int.ofNat_inj, stops, q_int, q_bool, q_string, q_S_int, q_path_Path, q_uint64, h0, h1]
  refine rcall_quiet rfl (path_Text vb ys _ _ l2 rb) ?_
  rw [show textP xs = joinB (xs.map itoaB) dotB from if_pos cg, show textP ys = joinB (ys.map itoaB) dotB from if_pos cg']
  generalize joinB (xs.map itoaB) dotB = tx at *
  generalize joinB (ys.map itoaB) dotB = ty at *
  simp (maxSteps := 1000000) (disch := first | assumption | omega | rfl | decide | simp only [fitsR, Bool.and_self]) [↓rules, rules, ↓rulesDp, rulesDq, lit_u64, Int.ofNat_inj, stops, q_int, q_bool, q_string, q_S_int, q_path_Path, q_uint64, h0, h1, bin_eql_string tu_string, dt]
  refine rcall_quiet rfl (intsI va vb xs ys _ _ l1 l2 ra rb) ?_
  simp (maxSteps := 1000000) (disch := first | assumption | omega | rfl | decide | simp only [fitsR, Bool.and_self]) [↓rules, rules, ↓rulesDp, rulesDq, lit_u64, Int.ofNat_inj, stops, q_int, q_bool, q_string, q_S_int, q_path_Path, q_uint64, h0, h1, bin_eql_bool tu_bool, beqb]
  refine rcall_quiet rfl (path_Begins va vb xs ys _ _ (by omega) l1 l2 ra rb) ?_
  generalize decide (ys.length ≤ xs.length ∧ xs.take ys.length = ys) = q1 at *
  cases q1
  · rw [Bool.false_and] at db
    simp (maxSteps := 1000000) (disch := first | assumption | omega | rfl | decide | simp only [fitsR, Bool.and_self]) [↓rules, rules, ↓rulesDp, rulesDq, lit_u64, Int.ofNat_inj, stops, q_int, q_bool, q_string, q_S_int, q_path_Path, q_uint64, h0, h1]
    refine rcall_quiet rfl (intsI va vb xs ys _ _ l1 l2 ra rb) ?_
    rw [← db]
    simp (maxSteps := 1000000) (disch := first | assumption | omega | rfl | decide | simp only [fitsR, Bool.and_self]) [↓rules, rules, ↓rulesDp, rulesDq, lit_u64, Int.ofNat_inj, stops, q_int, q_bool, q_string, q_S_int, q_path_Path, q_uint64, h0, h1, bin_eql_bool tu_bool, beqb]
    exact done_q hdom k1 rfl rfl
  · rw [Bool.true_and] at db
    simp (maxSteps := 1000000) (disch := first | assumption | omega | rfl | decide | simp only [fitsR, Bool.and_self]) [↓rules, rules, ↓rulesDp, rulesDq, lit_u64, Int.ofNat_inj, stops, q_int, q_bool, q_string, q_S_int, q_path_Path, q_uint64, h0, h1]
    refine rcall_quiet rfl (path_Begins vb va ys xs _ _ (by omega) l2 l1 rb ra) ?_
    obtain ⟨r, hr⟩ : ∃ r, decide (xs = ys) = r := ⟨_, rfl⟩
    rw [db, hr]
    simp (maxSteps := 1000000) (disch := first | assumption | omega | rfl | decide | simp only [fitsR, Bool.and_self]) [↓rules, rules, ↓rulesDp, rulesDq, lit_u64, Int.ofNat_inj, stops, q_int, q_bool, q_string, q_S_int, q_path_Path, q_uint64, h0, h1]
    refine rcall_quiet rfl (intsI va vb xs ys _ _ l1 l2 ra rb) ?_
    rw [hr]
    simp (maxSteps := 1000000) (disch := first | assumption | omega | rfl | decide | simp only [fitsR, Bool.and_self]) [↓rules, rules, ↓rulesDp, rulesDq, lit_u64, Int.ofNat_inj, stops, q_int, q_bool, q_string, q_S_int, q_path_Path, q_uint64, h0, h1, bin_eql_bool tu_bool, beqb]
    exact done_q hdom k1 rfl rfl
end Go.Proofs.YtfcbhgiccgommaaDoor.F9
