/- Contracts of functions: what each one returns, and what it leaves. No statement is proved here. -/
import Derived.Test.YtkcahnefekkfaaaF13W
import Derived.Shelf.Sort.Plain
import Derived.Shelf.Slices.CompactI
set_option linter.unusedVariables false
set_option linter.unusedSimpArgs false
set_option linter.unusedSectionVars false
namespace Go.Proofs.Ytkcahnefekkfaaa.F13W
open Go Go.Proofs Go.Proofs.YtkcahnefekkfaaaAbs
variable [Base]
set_option maxRecDepth 100000
abbrev rdW (g : AMem) (v : Value) (ws : List (BitVec 64)) : Prop := Rd g 1 (fun w => [U w]) v ws
abbrev rdI (g : AMem) (v : Value) (xs : List Int) : Prop := Rd g 1 (fun x => [.int .i64 x]) v xs
end Go.Proofs.Ytkcahnefekkfaaa.F13W

namespace Go.Proofs.Ytkcahnefekkfaaa.F13W
open Go Go.Proofs Go.Proofs.YtkcahnefekkfaaaAbs
variable [Base]
set_option maxRecDepth 100000
/-- A slice that is read, as a row. -/
theorem rd_all {α : Type} {enc : α → List Value} {e : Nat} {g : AMem} {v : Value} {xs : List α} (h : Rd g e enc v xs) (h0 : 0 < xs.length) : ∃ b o cs r, v = .slice (some ⟨b, o, none⟩) xs.length e ∧ g b = some (.row cs r) ∧ o + xs.length * e ≤ cs.length ∧ xs.flatMap enc = (cs.drop o).take (xs.length * e) := aRead_row h h0
/-- Its elements. -/
theorem rd_elems {α : Type} {f : α → Value} {g : AMem} {v : Value} {xs : List α} (h : Rd g 1 (fun x => [f x]) v xs) (h0 : 0 < xs.length) :
    ∃ b o, v = .slice (some ⟨b, o, none⟩) xs.length 1 ∧ g b ≠ none ∧ ∀ (i : Nat) (hi : i < xs.length) (g2 : AMem), Ext g g2 → ∀ (P : Program) (t : TypeId), tagg P t = some false → aLoad P g2 t (.pointer (some ⟨b, o + i, none⟩)) = some (f xs[i]) := by
  obtain ⟨b, o, h1, h2, _⟩ := h.one h0
  refine ⟨b, o, h1, h2, fun i hi g2 hx P t ht => ?_⟩
  obtain ⟨b', o', h3, _, h4⟩ := h.one hi
  rw [h1] at h3
  simp only [Value.slice.injEq, Option.some.injEq, Addr.mk.injEq] at h3
  obtain ⟨⟨rfl, rfl, _⟩, _⟩ := h3
  exact h4 g2 hx P t ht
theorem rd_nths {α : Type} {f : α → Value} {g : AMem} {v : Value} {xs : List α} (h : Rd g 1 (fun x => [f x]) v xs) (h0 : 0 < xs.length) :
    ∃ b o cs r, v = .slice (some ⟨b, o, none⟩) xs.length 1 ∧ g b = some (.row cs r) ∧ ∀ (i : Nat) (hi : i < xs.length), nth cs (o + i) = some (f xs[i]) := by
  obtain ⟨b, o, cs, r, h1, h2, h3, h4⟩ := rd_all h h0
  refine ⟨b, o, cs, r, h1, h2, fun i hi => ?_⟩
  rw [flatMap_one, Nat.mul_one] at h4
  have : (xs.map f)[i]? = some (f xs[i]) := by simp [hi]
  rw [h4, List.getElem?_take, if_pos hi, List.getElem?_drop] at this
  rw [← nth_eq]; exact this
/-- A part of it. -/
theorem rd_part {α : Type} {enc : α → List Value} {e : Nat} (he : ∀ x, (enc x).length = e) {g : AMem} {b o n : Nat} {xs : List α} (h : Rd g e enc (.slice (some ⟨b, o, none⟩) n e) xs) (k m : Nat) (hm : k + m ≤ xs.length) : Rd g e enc (.slice (some ⟨b, o + k * e, none⟩) m e) ((xs.drop k).take m) := by
  have hn : n = xs.length := by
    obtain ⟨a, e', h1⟩ := h.form
    simp only [Value.slice.injEq] at h1
    exact h1.2.1
  have hl : ((xs.drop k).take m).length = m := by rw [List.length_take, List.length_drop]; omega
  by_cases h0 : m = 0
  · subst h0
    simp [Rd, aRead]
  obtain ⟨b', o', cs, r, h1, h2, h3, h4⟩ := rd_all h (by omega)
  simp only [Value.slice.injEq, Option.some.injEq, Addr.mk.injEq] at h1
  obtain ⟨⟨rfl, rfl, _⟩, _⟩ := h1
  have hke : k * e + m * e ≤ xs.length * e := by rw [← Nat.add_mul]; exact Nat.mul_le_mul_right _ hm
  refine Rd.of_row he h2 (by rw [hl]; omega) ?_ hl.symm
  rw [hl]
  have e1 : xs.flatMap enc = (xs.take k).flatMap enc ++ (((xs.drop k).take m).flatMap enc ++ ((xs.drop k).drop m).flatMap enc) := by
    rw [← List.flatMap_append, List.take_append_drop, ← List.flatMap_append, List.take_append_drop]
  have l1 : ((xs.take k).flatMap enc).length = k * e := by rw [flat_length he, List.length_take, Nat.min_eq_left (by omega)]
  have l2 : (((xs.drop k).take m).flatMap enc).length = m * e := by rw [flat_length he, hl]
  have e2 : ((xs.flatMap enc).drop (k * e)).take (m * e) = ((xs.drop k).take m).flatMap enc := by
    rw [e1, ← l1, List.drop_left, ← l2, List.take_left]
  rw [← e2, h4, List.drop_take, List.drop_drop, List.take_take, Nat.min_eq_left (by omega)]
theorem rd_read {α : Type} {enc : α → List Value} {e : Nat} {g : AMem} {v : Value} {xs : List α} (h : Rd g e enc v xs) : aRead g e v = some (xs.length, xs.flatMap enc) := h
set_option maxHeartbeats 2000000
end Go.Proofs.Ytkcahnefekkfaaa.F13W

namespace Go.Proofs.Ytkcahnefekkfaaa.F13W
open Go Go.Proofs Go.Proofs.YtkcahnefekkfaaaAbs
variable [Base]
theorem LKk {k : IntKind} {v : Value} (h : (LK.int k).is v) : ∃ x : Int, v = .int k x ∧ k.min ≤ x ∧ x ≤ k.max := by
  obtain ⟨x, rfl, hx⟩ := h
  simp only [Lit.wf, Bool.and_eq_true, decide_eq_true_eq] at hx
  exact ⟨x, rfl, hx.1, hx.2⟩
theorem LKf {v : Value} (h : (LK.float .f64).is v) : ∃ x : Nat, v = .float .f64 x ∧ x < 18446744073709551616 := by
  obtain ⟨x, rfl, hx⟩ := h
  simp only [Lit.wf, decide_eq_true_eq] at hx
  exact ⟨x, rfl, hx⟩
theorem okWide_f64 {P : Program} {W : World} {r : Reach} {base : Nat} {t : TypeId} {v : Value} (ht : P.underlying t = some (.float .f64)) (h : Value.okWide P W r base t v) : ∃ n, v = .float .f64 n := by
  simp only [Value.okWide, ht, Cell.okWide] at h
  cases v <;> simp_all [Cell.ok]
theorem decWo {H : Type} {enc : TypeId × Value → H} {W : World} : ∀ c, Cells enc Try.prog W [.flat (.int .u64)] c → ∃ x : BitVec 64, [U x] = c ∧ True := fun c h => by
  obtain ⟨a, rfl, ha⟩ := h.flats1
  obtain ⟨x, rfl⟩ := LK.u64 ha
  exact ⟨x, rfl, trivial⟩
end Go.Proofs.Ytkcahnefekkfaaa.F13W

namespace Go.Proofs.Ytkcahnefekkfaaa.F13W
open Go Go.Proofs Go.Proofs.YtkcahnefekkfaaaAbs
variable [Base]
set_option maxHeartbeats 8000000
set_option maxRecDepth 100000
/-! ### States: slots, things -/
structure Sl where
  ty : Int
  th : Int
  ri : Int
  ba : Int
  up : Int
deriving DecidableEq
structure Tg where
  ty : Int
  bits : Int
  base : Int
  size : Int
  used : Int
  frm : Int
  badge : Int
  full : Bool
  word : BitVec 64
  d0 : BitVec 64
  d1 : BitVec 64
  d2 : BitVec 64
  d3 : BitVec 64
deriving DecidableEq
def cS (x : Sl) : List Value := [.int .i64 x.ty, .int .i64 x.th, .int .i64 x.ri, .int .i64 x.ba, .int .i64 x.up]
def cG (t : Tg) : List Value := [.int .i64 t.ty, .int .i64 t.bits, .int .i64 t.base, .int .i64 t.size, .int .i64 t.used, .int .i64 t.frm, .int .i64 t.badge, .bool t.full, U t.word, U t.d0, U t.d1, U t.d2, U t.d3]
theorem cS_len (x : Sl) : (cS x).length = 5 := rfl
theorem cG_len (x : Tg) : (cG x).length = 13 := rfl
abbrev rdS (g : AMem) (v : Value) (xs : List Sl) : Prop := Rd g 5 cS v xs
abbrev rdG (g : AMem) (v : Value) (xs : List Tg) : Prop := Rd g 13 cG v xs
theorem eqS (x y : Sl) : cellsEq (cS x) (cS y) = decide (x = y) := by
  cases x; cases y
  simp only [cS, cellsEq_cons, cellsEq_nil, cellEq_int, Sl.mk.injEq, Bool.and_true, Bool.decide_and]
theorem eqG (x y : Tg) : cellsEq (cG x) (cG y) = decide (x = y) := by
  cases x; cases y
  simp only [cG, cellsEq_cons, cellsEq_nil, cellEq_int, cellEq_bool, cellEq_U, Tg.mk.injEq, Bool.and_true, Bool.decide_and]
theorem fitsS (x : Sl) : fitsB [.int .i64, .int .i64, .int .i64, .int .i64, .int .i64] (cS x) = true := rfl
theorem fitsG (x : Tg) : fitsB [.int .i64, .int .i64, .int .i64, .int .i64, .int .i64, .int .i64, .int .i64, .bool, .int .u64, .int .u64, .int .u64, .int .u64, .int .u64] (cG x) = true := rfl
/-- An element of many cells, loaded. -/
theorem rd_big {α : Type} {enc : α → List Value} {e : Nat} {g : AMem} {v : Value} {xs : List α} (h : Rd g e enc v xs) (he : ∀ x, (enc x).length = e) {i : Nat} (hi : i < xs.length) :
    ∃ b o, v = .slice (some ⟨b, o, none⟩) xs.length e ∧ g b ≠ none ∧ ∀ (g2 : AMem), Ext g g2 → ∀ (P : Program) (t : TypeId), tagg P t = some true → tsize P t = some e → aLoad P g2 t (.pointer (some ⟨b, o + i * e, none⟩)) = some (.agg (enc xs[i]).toArray) := by
  obtain ⟨b, o, cs, r, h1, h2, h3, h4, _⟩ := h.elem he hi
  exact ⟨b, o, h1, by rw [h2]; simp, fun g2 hx P t ht hs => load_elem (hx _ _ h2) ht hs h3 h4⟩
/-- A state's numbers, its slots and things. -/
structure St where
  a : Int
  b : Int
  c : Int
  ss : List Sl
  ts : List Tg
deriving DecidableEq
def sameSt (s s' : St) : Bool := decide (s = s')
theorem sameSt_iff {s s' : St} : sameSt s s' = true ↔ s = s' := by simp [sameSt]
abbrev sv (a b c : Int) (VS VT : Value) : Value := .agg #[.int .i64 a, .int .i64 b, .int .i64 c, VS, VT]
theorem fits3 (a b c : Int) : fitsB [.int .i64, .int .i64, .int .i64] [.int .i64 a, .int .i64 b, .int .i64 c] = true := rfl
end Go.Proofs.Ytkcahnefekkfaaa.F13W

namespace Go.Proofs.Ytkcahnefekkfaaa.F13W
open Go Go.Proofs Go.Proofs.YtkcahnefekkfaaaAbs
variable [Base]
set_option maxHeartbeats 8000000
set_option maxRecDepth 100000
/-! ### Slices of many cells, made from some block on -/
def Gb {α : Type} (e : Nat) (enc : α → List Value) (n : Nat) (g : AMem) (v : Value) (xs : List α) : Prop := (v = .slice none 0 0 ∧ xs = []) ∨ ∃ b, n ≤ b ∧ v = .slice (some ⟨b, 0, none⟩) xs.length e ∧ g b = some (.row (xs.flatMap enc) true)
theorem Gb_rd {α : Type} {e : Nat} {enc : α → List Value} (he : ∀ x, (enc x).length = e) {n : Nat} {g : AMem} {v : Value} {xs : List α} (h : Gb e enc n g v xs) : Rd g e enc v xs := by
  rcases h with ⟨rfl, rfl⟩ | ⟨b, _, rfl, h2⟩
  · rfl
  · by_cases h0 : xs.length = 0
    · have : xs = [] := List.length_eq_zero_iff.1 h0
      subst this; rfl
    · refine Rd.of_row he h2 (by rw [flat_length he]; omega) ?_ rfl
      rw [List.drop_zero, List.take_of_length_le (by rw [flat_length he]; omega)]
theorem Gb_le {α : Type} {e : Nat} {enc : α → List Value} {m n : Nat} {g : AMem} {v : Value} {xs : List α} (h : Gb e enc m g v xs) (hn : n ≤ m) : Gb e enc n g v xs := h.imp id fun ⟨b, hb, h1, h2⟩ => ⟨b, by omega, h1, h2⟩
theorem Gb_new {α : Type} {e : Nat} {enc : α → List Value} {n m : Nat} {g : AMem} {v : Value} {xs : List α} (o : Option AObj) (h : Gb e enc n g v xs) (hd : ∀ i, g i ≠ none → i < m) : Gb e enc n (gset g m o) v xs := by
  rcases h with h | ⟨b, hb, h1, h2⟩
  · exact Or.inl h
  · have := hd b (by rw [h2]; simp)
    exact Or.inr ⟨b, hb, h1, by rw [gset, if_neg (by omega)]; exact h2⟩
theorem Gb_put {α : Type} {e : Nat} {enc : α → List Value} {m n x : Nat} {g : AMem} {v : Value} {xs : List α} (o : Option AObj) (h : Gb e enc m g v xs) (hx : x < m) (hn : n ≤ m) : Gb e enc n (gset g x o) v xs := by
  rcases h with h | ⟨b, hb, h1, h2⟩
  · exact Or.inl h
  · exact Or.inr ⟨b, by omega, h1, by rw [gset, if_neg (by omega)]; exact h2⟩
theorem Gb_kept {α : Type} {e : Nat} {enc : α → List Value} {n m : Nat} {g g' : AMem} {n' : Nat} {v : Value} {xs : List α} (h : Gb e enc n g v xs) (hd : ∀ i, g i ≠ none → i < m) (hk : Kept g m g' n') : Gb e enc n g' v xs := by
  rcases h with h | ⟨b, hb, h1, h2⟩
  · exact Or.inl h
  · have := hd b (by rw [h2]; simp)
    exact Or.inr ⟨b, hb, h1, by rw [hk.same b this]; exact h2⟩
theorem rd_cases {α : Type} {e : Nat} {enc : α → List Value} {g : AMem} {v : Value} {xs : List α} (h : Rd g e enc v xs) : v = .slice none 0 0 ∧ xs = [] ∨ ∃ b e', v = .slice (some b) xs.length e' := by
  obtain ⟨a, e', rfl⟩ := h.form
  cases a with
  | some b => exact Or.inr ⟨b, e', rfl⟩
  | none =>
    left
    have h : aRead g e (.slice none xs.length e') = some (xs.length, xs.flatMap enc) := h
    unfold aRead at h
    split at h
    · rename_i h1
      simp only [Value.slice.injEq] at h1
      obtain ⟨_, h2, h3⟩ := h1
      have : xs = [] := List.length_eq_zero_iff.1 h2
      subst this; subst h3
      exact ⟨rfl, rfl⟩
    · rename_i h1; cases h1
    · cases h
theorem okS (xs : List Sl) : (xs.flatMap cS).all cellOk = true := by
  rw [List.all_eq_true]
  intro v hv
  obtain ⟨x, _, hx⟩ := List.mem_flatMap.1 hv
  simp only [cS, List.mem_cons, List.not_mem_nil, or_false] at hx
  rcases hx with rfl | rfl | rfl | rfl | rfl <;> rfl
theorem okG (xs : List Tg) : (xs.flatMap cG).all cellOk = true := by
  rw [List.all_eq_true]
  intro v hv
  obtain ⟨x, _, hx⟩ := List.mem_flatMap.1 hv
  simp only [cG, List.mem_cons, List.not_mem_nil, or_false] at hx
  rcases hx with rfl | rfl | rfl | rfl | rfl | rfl | rfl | rfl | rfl | rfl | rfl | rfl | rfl <;> rfl
end Go.Proofs.Ytkcahnefekkfaaa.F13W

namespace Go.Proofs.Ytkcahnefekkfaaa.F13W
open Go Go.Proofs Go.Proofs.YtkcahnefekkfaaaAbs
variable [Base]
set_option maxHeartbeats 8000000
set_option maxRecDepth 100000
def hvy (ss : List Sl) (ts : List Tg) : Bool := decide (100 < ss.length) || decide (50 < ts.length)
end Go.Proofs.Ytkcahnefekkfaaa.F13W

namespace Go.Proofs.Ytkcahnefekkfaaa.F13W
open Go Go.Proofs Go.Proofs.YtkcahnefekkfaaaAbs
variable [Base]
set_option maxHeartbeats 8000000
set_option maxRecDepth 100000
theorem tk_snoc {α : Type} (zs : List α) (i : Nat) (h : i < zs.length) : zs.take (i + 1) = zs.take i ++ [zs[i]] := by rw [List.take_add_one, List.getElem?_eq_getElem h]; rfl
abbrev rowS (a b c : Int) (VS VT : Value) : AObj := .row [.int .i64 a, .int .i64 b, .int .i64 c, VS, VT] true
end Go.Proofs.Ytkcahnefekkfaaa.F13W

namespace Go.Proofs.Ytkcahnefekkfaaa.F13W
open Go Go.Proofs Go.Proofs.YtkcahnefekkfaaaAbs
variable [Base]
set_option maxHeartbeats 8000000
set_option maxRecDepth 100000
theorem rd_slot {g : AMem} {v : Value} {xs : List Sl} (h : rdS g v xs) {i : Nat} (hi : i < xs.length) :
    ∃ b o, v = .slice (some ⟨b, o, none⟩) xs.length 5 ∧ ∀ (g2 : AMem), Ext g g2 → (∀ (P : Program) (t : TypeId), tagg P t = some true → tsize P t = some 4 → aLoad P g2 t (.pointer (some ⟨b, o + i * 5, none⟩)) = some (.agg #[.int .i64 xs[i].ty, .int .i64 xs[i].th, .int .i64 xs[i].ri, .int .i64 xs[i].ba])) ∧ (∀ (P : Program) (t : TypeId), tagg P t = some false → aLoad P g2 t (.pointer (some ⟨b, o + i * 5 + 4, none⟩)) = some (.int .i64 xs[i].up)) := by
  obtain ⟨b, o, cs, r, h1, h2, h3, h4, h5⟩ := Rd.elem h cS_len hi
  refine ⟨b, o, h1, fun g2 hx => ⟨fun P t ht hs => ?_, fun P t ht => ?_⟩⟩
  · refine load_elem (x := [.int .i64 xs[i].ty, .int .i64 xs[i].th, .int .i64 xs[i].ri, .int .i64 xs[i].ba]) (hx _ _ h2) ht hs (by omega) ?_
    have : (cs.drop (o + i * 5)).take 4 = ((cs.drop (o + i * 5)).take 5).take 4 := by rw [List.take_take]; rfl
    rw [this, h4]; rfl
  · exact load_elem1 (hx _ _ h2) ht ((h5 4 (by omega)).trans rfl)
theorem zr5 (a b c d e : Value) : zeroRow [a, b, c, d, e] 1 = [a, b, c, d, e] := rfl
theorem zr13 (a b c d e f g h i j k l m : Value) : zeroRow [a, b, c, d, e, f, g, h, i, j, k, l, m] 1 = [a, b, c, d, e, f, g, h, i, j, k, l, m] := rfl
theorem fm_snoc {α : Type} (enc : α → List Value) (xs : List α) (x : α) : (xs ++ [x]).flatMap enc = xs.flatMap enc ++ enc x := by
  rw [List.flatMap_append, List.flatMap_cons, List.flatMap_nil, List.append_nil]
theorem apart {n m q l : Nat} {g : AMem} {WS : Value} {ss : List Sl} (l' : Nat) (h : Gb 5 cS n g WS ss) (hd : ∀ i, g i ≠ none → i < m) (hq : m < q) : ∀ (b1 x x_1 x_2 : Nat), WS = .slice (some ⟨b1, x, none⟩) x_1 x_2 → ∀ (b2 y y_1 y_2 : Nat), q = b2 → 0 = y → l = y_1 → l' = y_2 → ¬ b1 = b2 := by
  intro b1 x x1 x2 hw b2 y y1 y2 hv _ _ _
  rcases h with ⟨h1, _⟩ | ⟨bS, _, h1, h2⟩
  · rw [h1] at hw; cases hw
  · rw [h1] at hw
    have := hd bS (by rw [h2]; simp)
    cases hw
    omega
end Go.Proofs.Ytkcahnefekkfaaa.F13W

namespace Go.Proofs.Ytkcahnefekkfaaa.F13W
open Go Go.Proofs Go.Proofs.YtkcahnefekkfaaaAbs
variable [Base]
set_option maxRecDepth 100000
/-! ### state.Good of given states: each by a run of its own -/
abbrev I (n : Nat) : Value := .int .i64 (.ofNat n)
abbrev M (n : Nat) : Value := .int .i64 (.negSucc n)
abbrev B (b : Bool) : Value := .bool b
abbrev U8 (n : Nat) : Value := .int .u64 (.ofNat n)
noncomputable def g_first : Memo := ⟨[I 2, I 32, I 16], 32, 5, 16, 13,
  [I 1, I 0, I 7, I 0, M 0,
   I 3, I 1, I 7, I 0, M 0,
   I 0, I 0, I 0, I 0, M 0,
   I 0, I 0, I 0, I 0, M 0,
   I 0, I 0, I 0, I 0, M 0,
   I 0, I 0, I 0, I 0, M 0,
   I 0, I 0, I 0, I 0, M 0,
   I 0, I 0, I 0, I 0, M 0,
   I 0, I 0, I 0, I 0, M 0,
   I 3, I 1, I 7, I 0, I 1,
   I 0, I 0, I 0, I 0, M 0,
   I 0, I 0, I 0, I 0, M 0,
   I 0, I 0, I 0, I 0, M 0,
   I 0, I 0, I 0, I 0, M 0,
   I 0, I 0, I 0, I 0, M 0,
   I 0, I 0, I 0, I 0, M 0,
   I 0, I 0, I 0, I 0, M 0,
   I 0, I 0, I 0, I 0, M 0,
   I 0, I 0, I 0, I 0, M 0,
   I 0, I 0, I 0, I 0, M 0,
   I 0, I 0, I 0, I 0, M 0,
   I 0, I 0, I 0, I 0, M 0,
   I 0, I 0, I 0, I 0, M 0,
   I 0, I 0, I 0, I 0, M 0,
   I 0, I 0, I 0, I 0, M 0,
   I 0, I 0, I 0, I 0, M 0,
   I 0, I 0, I 0, I 0, M 0,
   I 0, I 0, I 0, I 0, M 0,
   I 0, I 0, I 0, I 0, M 0,
   I 0, I 0, I 0, I 0, M 0,
   I 0, I 0, I 0, I 0, M 0,
   I 0, I 0, I 0, I 0, M 0],
  [I 1, I 0, I 0, I 64, I 0, I 0, I 0, B false, U8 0, U8 0, U8 0, U8 0, U8 0,
   I 3, I 0, I 0, I 0, I 0, I 0, I 0, B false, U8 0, U8 0, U8 0, U8 0, U8 0,
   I 2, I 3, I 0, I 0, I 0, I 0, I 0, B false, U8 0, U8 0, U8 0, U8 0, U8 0,
   I 2, I 3, I 8, I 0, I 0, I 0, I 0, B false, U8 0, U8 0, U8 0, U8 0, U8 0,
   I 0, I 0, I 0, I 0, I 0, I 0, I 0, B false, U8 0, U8 0, U8 0, U8 0, U8 0,
   I 0, I 0, I 0, I 0, I 0, I 0, I 0, B false, U8 0, U8 0, U8 0, U8 0, U8 0,
   I 0, I 0, I 0, I 0, I 0, I 0, I 0, B false, U8 0, U8 0, U8 0, U8 0, U8 0,
   I 0, I 0, I 0, I 0, I 0, I 0, I 0, B false, U8 0, U8 0, U8 0, U8 0, U8 0,
   I 0, I 0, I 0, I 0, I 0, I 0, I 0, B false, U8 0, U8 0, U8 0, U8 0, U8 0,
   I 0, I 0, I 0, I 0, I 0, I 0, I 0, B false, U8 0, U8 0, U8 0, U8 0, U8 0,
   I 0, I 0, I 0, I 0, I 0, I 0, I 0, B false, U8 0, U8 0, U8 0, U8 0, U8 0,
   I 0, I 0, I 0, I 0, I 0, I 0, I 0, B false, U8 0, U8 0, U8 0, U8 0, U8 0,
   I 0, I 0, I 0, I 0, I 0, I 0, I 0, B false, U8 0, U8 0, U8 0, U8 0, U8 0,
   I 0, I 0, I 0, I 0, I 0, I 0, I 0, B false, U8 0, U8 0, U8 0, U8 0, U8 0,
   I 0, I 0, I 0, I 0, I 0, I 0, I 0, B false, U8 0, U8 0, U8 0, U8 0, U8 0,
   I 0, I 0, I 0, I 0, I 0, I 0, I 0, B false, U8 0, U8 0, U8 0, U8 0, U8 0], true⟩
theorem g_first_ok : MemoOk Try.prog f_state_Good g_first := memo_run hm tabOk ExtOk.nil (k := 4000) (d := 60) (by kernel_rfl)
noncomputable def goods : List Memo := [g_first]
theorem goods_ok : ∀ m, m ∈ goods → MemoOk Try.prog f_state_Good m := fun m hm => by
  simp only [goods, List.mem_cons, List.not_mem_nil, or_false] at hm
  subst hm
  · exact g_first_ok
noncomputable def ext : XExt := [(f_state_Good, memoF goods)]
theorem extOk : ExtOk Try.prog ext := ExtOk.cons (memo_ok t_state_Good.go goods_ok) ExtOk.nil
end Go.Proofs.Ytkcahnefekkfaaa.F13W

namespace Go.Proofs.Ytkcahnefekkfaaa.F13W
open Go Go.Proofs Go.Proofs.YtkcahnefekkfaaaAbs
variable [Base]
set_option maxRecDepth 100000
/-! States among the arguments. -/
theorem kindSl : ckinds Try.prog 9 T_state_Slot = some [.flat (.int .i64), .flat (.int .i64), .flat (.int .i64), .flat (.int .i64), .flat (.int .i64)] := by kernel_rfl
theorem cellsSl : Try.prog.cellsOf T_state_Slot = 5 := by kernel_rfl
theorem kindTg : ckinds Try.prog 9 T_thing_Thing = some [.flat (.int .i64), .flat (.int .i64), .flat (.int .i64), .flat (.int .i64), .flat (.int .i64), .flat (.int .i64), .flat (.int .i64), .flat .bool, .flat (.int .u64), .flat (.int .u64), .flat (.int .u64), .flat (.int .u64), .flat (.int .u64)] := by kernel_rfl
theorem cellsTg : Try.prog.cellsOf T_thing_Thing = 13 := by kernel_rfl
theorem decSl {H : Type} {enc : TypeId × Value → H} {W : World} : ∀ c, Cells enc Try.prog W [.flat (.int .i64), .flat (.int .i64), .flat (.int .i64), .flat (.int .i64), .flat (.int .i64)] c → ∃ x : Sl, cS x = c ∧ True := fun c h => by
  have hl := h.len
  simp only [List.length_cons, List.length_nil] at hl
  match c, hl, h with
  | [c0, c1, c2, c3, c4], _, h =>
    obtain ⟨x0, h0, _⟩ := LK.i64 (h.at_ 0 (by simp) (by simp))
    obtain ⟨x1, h1, _⟩ := LK.i64 (h.at_ 1 (by simp) (by simp))
    obtain ⟨x2, h2, _⟩ := LK.i64 (h.at_ 2 (by simp) (by simp))
    obtain ⟨x3, h3, _⟩ := LK.i64 (h.at_ 3 (by simp) (by simp))
    obtain ⟨x4, h4, _⟩ := LK.i64 (h.at_ 4 (by simp) (by simp))
    simp only [List.getElem_cons_zero, List.getElem_cons_succ] at h0 h1 h2 h3 h4
    subst h0 h1 h2 h3 h4
    exact ⟨⟨x0, x1, x2, x3, x4⟩, rfl, trivial⟩
theorem decTg {H : Type} {enc : TypeId × Value → H} {W : World} : ∀ c, Cells enc Try.prog W [.flat (.int .i64), .flat (.int .i64), .flat (.int .i64), .flat (.int .i64), .flat (.int .i64), .flat (.int .i64), .flat (.int .i64), .flat .bool, .flat (.int .u64), .flat (.int .u64), .flat (.int .u64), .flat (.int .u64), .flat (.int .u64)] c → ∃ x : Tg, cG x = c ∧ True := fun c h => by
  have hl := h.len
  simp only [List.length_cons, List.length_nil] at hl
  match c, hl, h with
  | [c0, c1, c2, c3, c4, c5, c6, c7, c8, c9, c10, c11, c12], _, h =>
    obtain ⟨x0, h0, _⟩ := LK.i64 (h.at_ 0 (by simp) (by simp))
    obtain ⟨x1, h1, _⟩ := LK.i64 (h.at_ 1 (by simp) (by simp))
    obtain ⟨x2, h2, _⟩ := LK.i64 (h.at_ 2 (by simp) (by simp))
    obtain ⟨x3, h3, _⟩ := LK.i64 (h.at_ 3 (by simp) (by simp))
    obtain ⟨x4, h4, _⟩ := LK.i64 (h.at_ 4 (by simp) (by simp))
    obtain ⟨x5, h5, _⟩ := LK.i64 (h.at_ 5 (by simp) (by simp))
    obtain ⟨x6, h6, _⟩ := LK.i64 (h.at_ 6 (by simp) (by simp))
    have h7 : LK.bool.is c7 := h.at_ 7 (by simp) (by simp)
    obtain ⟨x7, h7⟩ := h7
    obtain ⟨x8, h8⟩ := LK.u64 (h.at_ 8 (by simp) (by simp))
    obtain ⟨x9, h9⟩ := LK.u64 (h.at_ 9 (by simp) (by simp))
    obtain ⟨x10, h10⟩ := LK.u64 (h.at_ 10 (by simp) (by simp))
    obtain ⟨x11, h11⟩ := LK.u64 (h.at_ 11 (by simp) (by simp))
    obtain ⟨x12, h12⟩ := LK.u64 (h.at_ 12 (by simp) (by simp))
    simp only [List.getElem_cons_zero, List.getElem_cons_succ] at h0 h1 h2 h3 h4 h5 h6 h8 h9 h10 h11 h12
    subst h0 h1 h2 h3 h4 h5 h6 h7 h8 h9 h10 h11 h12
    exact ⟨⟨x0, x1, x2, x3, x4, x5, x6, x7, x8, x9, x10, x11, x12⟩, rfl, trivial⟩
theorem decState {H : Type} {enc : TypeId × Value → H} {W : World} : ∀ c, Cells enc Try.prog W [.flat (.int .i64), .flat (.int .i64), .flat (.int .i64), .slice T_state_Slot, .slice T_thing_Thing] c →
    ∃ (a b d : Int) (VS : Value) (ss : List Sl) (VT : Value) (ts : List Tg), VRel (idR W) (szOf W) (sv a b d VS VT) (.agg c.toArray) ∧ rdS (heapView W) VS ss ∧ rdG (heapView W) VT ts := fun c h => by
  have hl := h.len
  simp only [List.length_cons, List.length_nil] at hl
  match c, hl, h with
  | [c0, c1, c2, c3, c4], _, h =>
    obtain ⟨x0, h0, _⟩ := LK.i64 (h.at_ 0 (by simp) (by simp))
    obtain ⟨x1, h1, _⟩ := LK.i64 (h.at_ 1 (by simp) (by simp))
    obtain ⟨x2, h2, _⟩ := LK.i64 (h.at_ 2 (by simp) (by simp))
    have h3 : (CK.slice T_state_Slot).is enc Try.prog W c3 := h.at_ 3 (by simp) (by simp)
    have h4 : (CK.slice T_thing_Thing).is enc Try.prog W c4 := h.at_ 4 (by simp) (by simp)
    simp only [List.getElem_cons_zero, List.getElem_cons_succ] at h0 h1 h2
    obtain ⟨r3, ss, hr3, _, _⟩ := rd_of_slice (enc := cS) (good := fun _ => True) (e := 5) kindSl (by simp) rfl cellsSl (by decide) decSl h3
    obtain ⟨r4, ts, hr4, _, _⟩ := rd_of_slice (enc := cG) (good := fun _ => True) (e := 13) kindTg (by simp) rfl cellsTg (by decide) decTg h4
    subst h0 h1 h2
    refine ⟨x0, x1, x2, absV Try.prog (.slice T_state_Slot) c3, ss, absV Try.prog (.slice T_thing_Thing) c4, ts, .agg' ?_, hr3, hr4⟩
    exact VRs.cons' (.int _ _) (VRs.cons' (.int _ _) (VRs.cons' (.int _ _) (VRs.cons' r3 (VRs.cons' r4 (VRs.nil _ _)))))
end Go.Proofs.Ytkcahnefekkfaaa.F13W

namespace Go.Proofs.Ytkcahnefekkfaaa.F13W
open Go Go.Proofs Go.Proofs.YtkcahnefekkfaaaAbs
variable [Base]
set_option maxRecDepth 100000
abbrev gv (a b c : Int) : Value := .agg #[.int .i64 a, .int .i64 b, .int .i64 c]
def goodG (a b c : Int) : Bool := decide (1 ≤ a ∧ a ≤ 4 ∧ 8 * a ≤ b ∧ b ≤ 96 ∧ b % 8 = 0 ∧ a + 2 ≤ c ∧ c ≤ 48)
theorem goodG_iff {a b c : Int} : goodG a b c = true ↔ 1 ≤ a ∧ a ≤ 4 ∧ 8 * a ≤ b ∧ b ≤ 96 ∧ b % 8 = 0 ∧ a + 2 ≤ c ∧ c ≤ 48 := by unfold goodG; simp
theorem goodG_no {a b c : Int} (h : ¬ (1 ≤ a ∧ a ≤ 4 ∧ 8 * a ≤ b ∧ b ≤ 96 ∧ b % 8 = 0 ∧ a + 2 ≤ c ∧ c ≤ 48)) : goodG a b c = false := by unfold goodG; simpa using h
theorem inG (x lo hi : Int) (g : AMem) (n : Nat) : FnC Try.prog f_geo_in [.int .i64 x, .int .i64 lo, .int .i64 hi] g n (fun _ => False) (.bool (decide (lo ≤ x ∧ x ≤ hi))) g n := by
  refine fnC_of_rwp t_geo_in hm rfl fun hdom => ?_
  by_cases c : lo ≤ x
  · simp (maxSteps := 1000000) (disch := first | assumption | omega | rfl | decide) [↓rules, rules, lit_u64, aEval_U, splice_nil, splice_zero, splice_step, gset_gset, Int.ofNat_inj, U_junk, U_cells, U_cellOk, ub_and, ub_or, ub_xor, ub_andNot, ub_add, ub_sub, ub_mul, ub_shl, ub_shr, ub_shl', ub_shr', ub_eql, ub_neq, ub_lss, ub_leq, ub_gtr, ub_geq, rc_geo_in, c]
    refine done_q hdom (Kept.refl hdom) ?_ ?_ <;> rfl
  · simp (maxSteps := 1000000) (disch := first | assumption | omega | rfl | decide) [↓rules, rules, lit_u64, aEval_U, splice_nil, splice_zero, splice_step, gset_gset, Int.ofNat_inj, U_junk, U_cells, U_cellOk, ub_and, ub_or, ub_xor, ub_andNot, ub_add, ub_sub, ub_mul, ub_shl, ub_shr, ub_shl', ub_shr', ub_eql, ub_neq, ub_lss, ub_leq, ub_gtr, ub_geq, rc_geo_in, c]
    refine done_q hdom (Kept.refl hdom) ?_ ?_ <;> rfl
theorem GoodG (a b c : Int) (g : AMem) (n : Nat) : FnC Try.prog f_geo_Good [gv a b c] g n (fun _ => False) (.bool (goodG a b c)) g n := by
  refine fnC_of_rwp t_geo_Good hm rfl fun hdom => ?_
  have kn := (Kept.refl hdom).new (.row [.int .i64 a, .int .i64 b, .int .i64 c] true)
  simp (maxSteps := 1000000) (disch := first | assumption | omega | rfl | decide) [↓rules, rules, lit_u64, aEval_U, splice_nil, splice_zero, splice_step, gset_gset, Int.ofNat_inj, U_junk, U_cells, U_cellOk, ub_and, ub_or, ub_xor, ub_andNot, ub_add, ub_sub, ub_mul, ub_shl, ub_shr, ub_shl', ub_shr', ub_eql, ub_neq, ub_lss, ub_leq, ub_gtr, ub_geq, rc_geo_Good, tf_geo_Geo_Threads, tf_geo_Geo_Slots, tf_geo_Geo_Things, ta_int, ts_int]
  refine rcall_quiet rfl (inG _ _ _ _ _) ?_
  by_cases c1 : 1 ≤ a ∧ a ≤ 4
  case neg =>
    simp (maxSteps := 1000000) (disch := first | assumption | omega | rfl | decide) [↓rules, rules, lit_u64, aEval_U, splice_nil, splice_zero, splice_step, gset_gset, Int.ofNat_inj, U_junk, U_cells, U_cellOk, ub_and, ub_or, ub_xor, ub_andNot, ub_add, ub_sub, ub_mul, ub_shl, ub_shr, ub_shl', ub_shr', ub_eql, ub_neq, ub_lss, ub_leq, ub_gtr, ub_geq, c1]
    refine done_q hdom kn ?_ ?_; · rfl
    rw [goodG_no (by omega)]; rfl
  have e1 : IntKind.i64.wrap (8 * a) = 8 * a := wrap_i64 (by omega) (by omega)
  have e2 : IntKind.i64.wrap (a + 2) = a + 2 := wrap_i64 (by omega) (by omega)
  simp (maxSteps := 1000000) (disch := first | assumption | omega | rfl | decide) [↓rules, rules, lit_u64, aEval_U, splice_nil, splice_zero, splice_step, gset_gset, Int.ofNat_inj, U_junk, U_cells, U_cellOk, ub_and, ub_or, ub_xor, ub_andNot, ub_add, ub_sub, ub_mul, ub_shl, ub_shr, ub_shl', ub_shr', ub_eql, ub_neq, ub_lss, ub_leq, ub_gtr, ub_geq, c1, tf_geo_Geo_Threads, tf_geo_Geo_Slots, tf_geo_Geo_Things, ta_int, ts_int, e1]
  refine rcall_quiet rfl (inG _ _ _ _ _) ?_
  by_cases c2 : 8 * a ≤ b ∧ b ≤ 96
  case neg =>
    simp (maxSteps := 1000000) (disch := first | assumption | omega | rfl | decide) [↓rules, rules, lit_u64, aEval_U, splice_nil, splice_zero, splice_step, gset_gset, Int.ofNat_inj, U_junk, U_cells, U_cellOk, ub_and, ub_or, ub_xor, ub_andNot, ub_add, ub_sub, ub_mul, ub_shl, ub_shr, ub_shl', ub_shr', ub_eql, ub_neq, ub_lss, ub_leq, ub_gtr, ub_geq, c2]
    refine done_q hdom kn ?_ ?_; · rfl
    rw [goodG_no (by omega)]; rfl
  have e3 : b.tmod 8 = b % 8 := Int.tmod_eq_emod_of_nonneg (by omega)
  by_cases c3 : b % 8 = 0
  case neg =>
    simp (maxSteps := 1000000) (disch := first | assumption | omega | rfl | decide) [↓rules, rules, lit_u64, aEval_U, splice_nil, splice_zero, splice_step, gset_gset, Int.ofNat_inj, U_junk, U_cells, U_cellOk, ub_and, ub_or, ub_xor, ub_andNot, ub_add, ub_sub, ub_mul, ub_shl, ub_shr, ub_shl', ub_shr', ub_eql, ub_neq, ub_lss, ub_leq, ub_gtr, ub_geq, c2, tf_geo_Geo_Threads, tf_geo_Geo_Slots, tf_geo_Geo_Things, ta_int, ts_int, bin_rem, e3, c3]
    refine done_q hdom kn ?_ ?_; · rfl
    rw [goodG_no (by omega)]; rfl
  simp (maxSteps := 1000000) (disch := first | assumption | omega | rfl | decide) [↓rules, rules, lit_u64, aEval_U, splice_nil, splice_zero, splice_step, gset_gset, Int.ofNat_inj, U_junk, U_cells, U_cellOk, ub_and, ub_or, ub_xor, ub_andNot, ub_add, ub_sub, ub_mul, ub_shl, ub_shr, ub_shl', ub_shr', ub_eql, ub_neq, ub_lss, ub_leq, ub_gtr, ub_geq, c2, tf_geo_Geo_Threads, tf_geo_Geo_Slots, tf_geo_Geo_Things, ta_int, ts_int, bin_rem, e3, c3, e2]
  refine rcall_quiet rfl (inG _ _ _ _ _) ?_
  simp (maxSteps := 1000000) (disch := first | assumption | omega | rfl | decide) [↓rules, rules, lit_u64, aEval_U, splice_nil, splice_zero, splice_step, gset_gset, Int.ofNat_inj, U_junk, U_cells, U_cellOk, ub_and, ub_or, ub_xor, ub_andNot, ub_add, ub_sub, ub_mul, ub_shl, ub_shr, ub_shl', ub_shr', ub_eql, ub_neq, ub_lss, ub_leq, ub_gtr, ub_geq]
  refine done_q hdom kn ?_ ?_; · rfl
  have : goodG a b c = decide (a + 2 ≤ c ∧ c ≤ 48) := by unfold goodG; rw [decide_eq_decide]; omega
  rw [this, Bool.decide_and]; rfl
def copyG (a b c : Int) : Int := if goodG a b c = true then 16 + a * 1208 + 2 * b + 8 * c else 0
def rowsG (a b c : Int) : Int := if goodG a b c = true then copyG a b c / 8 + 1 else 0
def lockG (a b c : Int) : Int := if goodG a b c = true then 8 else 0
def descG (a b c i : Int) : Int × Int := if goodG a b c = true ∧ 0 ≤ i ∧ i < a then (16 + i * 1208, 1208) else (0, 0)
def slotG (a b c i : Int) : Int := if goodG a b c = true ∧ 0 ≤ i ∧ i < b then 16 + a * 1208 + 2 * i else 0
def thingG (a b c i : Int) : Int := if goodG a b c = true ∧ 0 ≤ i ∧ i < c then 16 + a * 1208 + 2 * b + 8 * i else 0
def rootG (a b c i : Int) : Int := if goodG a b c = true ∧ 0 ≤ i ∧ i < a then 8 * i else 0
theorem RootG (a b c i : Int) (g : AMem) (n : Nat) : FnC Try.prog f_geo_Root [gv a b c, .int .i64 i] g n (fun _ => False) (.int .i64 (rootG a b c i)) g n := by
  refine fnC_of_rwp t_geo_Root hm rfl fun hdom => ?_
  have kn := (Kept.refl hdom).new (.row [.int .i64 a, .int .i64 b, .int .i64 c] true)
  simp (maxSteps := 1000000) (disch := first | assumption | omega | rfl | decide) [↓rules, rules, lit_u64, aEval_U, splice_nil, splice_zero, splice_step, gset_gset, Int.ofNat_inj, U_junk, U_cells, U_cellOk, ub_and, ub_or, ub_xor, ub_andNot, ub_add, ub_sub, ub_mul, ub_shl, ub_shr, ub_shl', ub_shr', ub_eql, ub_neq, ub_lss, ub_leq, ub_gtr, ub_geq, rc_geo_Root, tf_geo_Geo_Threads, tf_geo_Geo_Slots, tf_geo_Geo_Things, ta_int, ts_int, ta_geo_Geo, ts_geo_Geo]
  refine rcall_quiet rfl (GoodG _ _ _ _ _) ?_
  cases hg : goodG a b c
  · simp (maxSteps := 1000000) (disch := first | assumption | omega | rfl | decide) [↓rules, rules, lit_u64, aEval_U, splice_nil, splice_zero, splice_step, gset_gset, Int.ofNat_inj, U_junk, U_cells, U_cellOk, ub_and, ub_or, ub_xor, ub_andNot, ub_add, ub_sub, ub_mul, ub_shl, ub_shr, ub_shl', ub_shr', ub_eql, ub_neq, ub_lss, ub_leq, ub_gtr, ub_geq]
    refine done_q hdom kn ?_ ?_; · rfl
    rw [rootG, if_neg (fun h => by rw [hg] at h; cases h.1)]; rfl
  have ok := goodG_iff.1 hg
  have e0 : IntKind.i64.wrap (a - 1) = a - 1 := wrap_i64 (by omega) (by omega)
  simp (maxSteps := 1000000) (disch := first | assumption | omega | rfl | decide) [↓rules, rules, lit_u64, aEval_U, splice_nil, splice_zero, splice_step, gset_gset, Int.ofNat_inj, U_junk, U_cells, U_cellOk, ub_and, ub_or, ub_xor, ub_andNot, ub_add, ub_sub, ub_mul, ub_shl, ub_shr, ub_shl', ub_shr', ub_eql, ub_neq, ub_lss, ub_leq, ub_gtr, ub_geq, tf_geo_Geo_Threads, tf_geo_Geo_Slots, tf_geo_Geo_Things, ta_int, ts_int, ta_geo_Geo, ts_geo_Geo, e0]
  refine rcall_quiet rfl (inG _ _ _ _ _) ?_
  by_cases c1 : 0 ≤ i ∧ i ≤ a - 1
  case neg =>
    simp (maxSteps := 1000000) (disch := first | assumption | omega | rfl | decide) [↓rules, rules, lit_u64, aEval_U, splice_nil, splice_zero, splice_step, gset_gset, Int.ofNat_inj, U_junk, U_cells, U_cellOk, ub_and, ub_or, ub_xor, ub_andNot, ub_add, ub_sub, ub_mul, ub_shl, ub_shr, ub_shl', ub_shr', ub_eql, ub_neq, ub_lss, ub_leq, ub_gtr, ub_geq, c1]
    refine done_q hdom kn ?_ ?_; · rfl
    rw [rootG, if_neg (by omega)]; rfl
  have e1 : IntKind.i64.wrap (8 * i) = 8 * i := wrap_i64 (by omega) (by omega)
  simp (maxSteps := 1000000) (disch := first | assumption | omega | rfl | decide) [↓rules, rules, lit_u64, aEval_U, splice_nil, splice_zero, splice_step, gset_gset, Int.ofNat_inj, U_junk, U_cells, U_cellOk, ub_and, ub_or, ub_xor, ub_andNot, ub_add, ub_sub, ub_mul, ub_shl, ub_shr, ub_shl', ub_shr', ub_eql, ub_neq, ub_lss, ub_leq, ub_gtr, ub_geq, c1, tf_geo_Geo_Threads, tf_geo_Geo_Slots, tf_geo_Geo_Things, ta_int, ts_int, ta_geo_Geo, ts_geo_Geo, e1]
  refine done_q hdom kn ?_ ?_; · rfl
  rw [rootG, if_pos ⟨hg, by omega, by omega⟩]; rfl
end Go.Proofs.Ytkcahnefekkfaaa.F13W

namespace Go.Proofs.Ytkcahnefekkfaaa.F13W
open Go Go.Proofs Go.Proofs.YtkcahnefekkfaaaAbs
variable [Base]
set_option maxHeartbeats 4000000
set_option maxRecDepth 100000
/-! ### What may be -/
abbrev c4 (a b c d : Int) : Value := .agg #[.int .i64 a, .int .i64 b, .int .i64 c, .int .i64 d]
def noneC (a b c d : Int) : Bool := decide (a = 0 ∧ b = 0 ∧ c = 0 ∧ d = 0)
def goodC (a b c d : Int) : Bool := noneC a b c d || decide (1 ≤ a ∧ a ≤ 5 ∧ 0 ≤ b ∧ b ≤ 47 ∧ 0 ≤ c ∧ c ≤ 7 ∧ 0 ≤ d ∧ d ≤ 65535 ∧ (d = 0 ∨ a = 3 ∨ a = 4))
theorem noneC_iff {a b c d : Int} : noneC a b c d = true ↔ a = 0 ∧ b = 0 ∧ c = 0 ∧ d = 0 := by unfold noneC; simp
theorem goodC_iff {a b c d : Int} : goodC a b c d = true ↔ (a = 0 ∧ b = 0 ∧ c = 0 ∧ d = 0) ∨ (1 ≤ a ∧ a ≤ 5 ∧ 0 ≤ b ∧ b ≤ 47 ∧ 0 ≤ c ∧ c ≤ 7 ∧ 0 ≤ d ∧ d ≤ 65535 ∧ (d = 0 ∨ a = 3 ∨ a = 4)) := by
  unfold goodC; rw [Bool.or_eq_true, noneC_iff, decide_eq_true_eq]
theorem cap_in (x lo hi : Int) (g : AMem) (n : Nat) : FnC Try.prog f_cap_in [.int .i64 x, .int .i64 lo, .int .i64 hi] g n (fun _ => False) (.bool (decide (lo ≤ x ∧ x ≤ hi))) g n := by
  refine fnC_of_rwp t_cap_in hm rfl fun hdom => ?_
  by_cases c : lo ≤ x
  · simp (maxSteps := 1000000) (disch := first | assumption | omega | rfl | decide | simp only [fitsR, Bool.and_self]) [↓rules, rules, ↓rulesDp, rulesDq, lit_u64, Int.ofNat_inj, stops, rc_cap_in, q_int, q_bool, c]
    refine done_q hdom (by repeat first | exact Kept.refl hdom | refine Kept.new ?_ _ | refine Kept.drop ?_ (by omega) | refine Kept.put ?_ (by omega) (by omega) _ | refine Kept.skip ?_) rfl ?_
    first | rfl | (simp [c]; rfl) | (simp [aResults, aRes, c]; rfl)
  · simp (maxSteps := 1000000) (disch := first | assumption | omega | rfl | decide | simp only [fitsR, Bool.and_self]) [↓rules, rules, ↓rulesDp, rulesDq, lit_u64, Int.ofNat_inj, stops, rc_cap_in, q_int, q_bool, c]
    refine done_q hdom (by repeat first | exact Kept.refl hdom | refine Kept.new ?_ _ | refine Kept.drop ?_ (by omega) | refine Kept.put ?_ (by omega) (by omega) _ | refine Kept.skip ?_) rfl ?_
    first | rfl | (simp [c]; rfl) | (simp [aResults, aRes, c]; rfl)
theorem right_Good (r : Int) (g : AMem) (n : Nat) : FnC Try.prog f_right_Good [.int .i64 r] g n (fun _ => False) (.bool (decide (0 ≤ r ∧ r ≤ 7))) g n := by
  refine fnC_of_rwp t_right_Good hm rfl fun hdom => ?_
  by_cases c : 0 ≤ r
  · simp (maxSteps := 1000000) (disch := first | assumption | omega | rfl | decide | simp only [fitsR, Bool.and_self]) [↓rules, rules, ↓rulesDp, rulesDq, lit_u64, Int.ofNat_inj, stops, rc_right_Good, q_int, q_bool, c]
    refine done_q hdom (by repeat first | exact Kept.refl hdom | refine Kept.new ?_ _ | refine Kept.drop ?_ (by omega) | refine Kept.put ?_ (by omega) (by omega) _ | refine Kept.skip ?_) rfl ?_
    first | rfl | (simp [c]; rfl) | (simp [aResults, aRes, c]; rfl)
  · simp (maxSteps := 1000000) (disch := first | assumption | omega | rfl | decide | simp only [fitsR, Bool.and_self]) [↓rules, rules, ↓rulesDp, rulesDq, lit_u64, Int.ofNat_inj, stops, rc_right_Good, q_int, q_bool, c]
    refine done_q hdom (by repeat first | exact Kept.refl hdom | refine Kept.new ?_ _ | refine Kept.drop ?_ (by omega) | refine Kept.put ?_ (by omega) (by omega) _ | refine Kept.skip ?_) rfl ?_
    first | rfl | (simp [c]; rfl) | (simp [aResults, aRes, c]; rfl)
theorem right_Badge (r : Int) (g : AMem) (n : Nat) : FnC Try.prog f_right_Badge [.int .i64 r] g n (fun _ => False) (.bool (decide (0 ≤ r ∧ r ≤ 65535))) g n := by
  refine fnC_of_rwp t_right_Badge hm rfl fun hdom => ?_
  by_cases c : 0 ≤ r
  · simp (maxSteps := 1000000) (disch := first | assumption | omega | rfl | decide | simp only [fitsR, Bool.and_self]) [↓rules, rules, ↓rulesDp, rulesDq, lit_u64, Int.ofNat_inj, stops, rc_right_Badge, q_int, q_bool, c]
    refine done_q hdom (by repeat first | exact Kept.refl hdom | refine Kept.new ?_ _ | refine Kept.drop ?_ (by omega) | refine Kept.put ?_ (by omega) (by omega) _ | refine Kept.skip ?_) rfl ?_
    first | rfl | (simp [c]; rfl) | (simp [aResults, aRes, c]; rfl)
  · simp (maxSteps := 1000000) (disch := first | assumption | omega | rfl | decide | simp only [fitsR, Bool.and_self]) [↓rules, rules, ↓rulesDp, rulesDq, lit_u64, Int.ofNat_inj, stops, rc_right_Badge, q_int, q_bool, c]
    refine done_q hdom (by repeat first | exact Kept.refl hdom | refine Kept.new ?_ _ | refine Kept.drop ?_ (by omega) | refine Kept.put ?_ (by omega) (by omega) _ | refine Kept.skip ?_) rfl ?_
    first | rfl | (simp [c]; rfl) | (simp [aResults, aRes, c]; rfl)
theorem cap_badged (a : Int) (g : AMem) (n : Nat) : FnC Try.prog f_cap_badged [.int .i64 a] g n (fun _ => False) (.bool (decide (a = 3 ∨ a = 4))) g n := by
  refine fnC_of_rwp t_cap_badged hm rfl fun hdom => ?_
  by_cases c : a = 3
  · simp (maxSteps := 1000000) (disch := first | assumption | omega | rfl | decide | simp only [fitsR, Bool.and_self]) [↓rules, rules, ↓rulesDp, rulesDq, lit_u64, Int.ofNat_inj, stops, rc_cap_badged, q_int, q_bool, c]
    refine done_q hdom (by repeat first | exact Kept.refl hdom | refine Kept.new ?_ _ | refine Kept.drop ?_ (by omega) | refine Kept.put ?_ (by omega) (by omega) _ | refine Kept.skip ?_) rfl ?_
    first | rfl | (simp [c]; rfl) | (simp [aResults, aRes, c]; rfl)
  · simp (maxSteps := 1000000) (disch := first | assumption | omega | rfl | decide | simp only [fitsR, Bool.and_self]) [↓rules, rules, ↓rulesDp, rulesDq, lit_u64, Int.ofNat_inj, stops, rc_cap_badged, q_int, q_bool, c]
    refine done_q hdom (by repeat first | exact Kept.refl hdom | refine Kept.new ?_ _ | refine Kept.drop ?_ (by omega) | refine Kept.put ?_ (by omega) (by omega) _ | refine Kept.skip ?_) rfl ?_
    first | rfl | (simp [c]; rfl) | (simp [aResults, aRes, c]; rfl)
theorem cap_None (a b c d : Int) (g : AMem) (n : Nat) : FnC Try.prog f_cap_None [c4 a b c d] g n (fun _ => False) (.bool (noneC a b c d)) g n := by
  refine fnC_of_rwp t_cap_None hm rfl fun hdom => ?_
  simp (maxSteps := 1000000) (disch := first | assumption | omega | rfl | decide | simp only [fitsR, Bool.and_self]) [↓rules, rules, ↓rulesDp, rulesDq, lit_u64, Int.ofNat_inj, stops, rc_cap_None, q_int, q_bool, q_cap_Cap, beq_cap_Cap]
  refine done_q hdom (by repeat first | exact Kept.refl hdom | refine Kept.new ?_ _ | refine Kept.drop ?_ (by omega) | refine Kept.put ?_ (by omega) (by omega) _ | refine Kept.skip ?_) rfl ?_
  unfold noneC
  first | rfl | (simp [Bool.decide_and]; rfl)
theorem goodC_no {a b c d : Int} (h : ¬ ((a = 0 ∧ b = 0 ∧ c = 0 ∧ d = 0) ∨ (1 ≤ a ∧ a ≤ 5 ∧ 0 ≤ b ∧ b ≤ 47 ∧ 0 ≤ c ∧ c ≤ 7 ∧ 0 ≤ d ∧ d ≤ 65535 ∧ (d = 0 ∨ a = 3 ∨ a = 4)))) : goodC a b c d = false := by
  cases e : goodC a b c d
  · rfl
  · exact absurd (goodC_iff.1 e) h
theorem cap_Good (a b c d : Int) (g : AMem) (n : Nat) : FnC Try.prog f_cap_Good [c4 a b c d] g n (fun _ => False) (.bool (goodC a b c d)) g n := by
  refine fnC_of_rwp t_cap_Good hm rfl fun hdom => ?_
  simp (maxSteps := 1000000) (disch := first | assumption | omega | rfl | decide | simp only [fitsR, Bool.and_self]) [↓rules, rules, ↓rulesDp, rulesDq, lit_u64, Int.ofNat_inj, stops, rc_cap_Good, q_int, q_bool, q_cap_Cap]
  refine rcall_quiet rfl (cap_None _ _ _ _ _ _) ?_
  cases cn : noneC a b c d
  case true =>
    rw [goodC_iff.2 (.inl (noneC_iff.1 cn))]
    simp (maxSteps := 1000000) (disch := first | assumption | omega | rfl | decide | simp only [fitsR, Bool.and_self]) [↓rules, rules, ↓rulesDp, rulesDq, lit_u64, Int.ofNat_inj, stops, q_int, q_bool, q_cap_Cap]
    exact done_q hdom (by repeat first | exact Kept.refl hdom | refine Kept.new ?_ _ | refine Kept.drop ?_ (by omega) | refine Kept.put ?_ (by omega) (by omega) _ | refine Kept.skip ?_) rfl rfl
  have cn' : ¬ (a = 0 ∧ b = 0 ∧ c = 0 ∧ d = 0) := fun h => by rw [noneC_iff.2 h] at cn; cases cn
  have kn := (Kept.refl hdom).new (.row [.int .i64 a, .int .i64 b, .int .i64 c, .int .i64 d] true)
  simp (maxSteps := 1000000) (disch := first | assumption | omega | rfl | decide | simp only [fitsR, Bool.and_self]) [↓rules, rules, ↓rulesDp, rulesDq, lit_u64, Int.ofNat_inj, stops, q_int, q_bool, q_cap_Cap]
  refine rcall_quiet rfl (cap_in _ _ _ _ _) ?_
  by_cases c1 : 1 ≤ a ∧ a ≤ 5
  case neg =>
    rw [goodC_no (by omega)]
    simp (maxSteps := 1000000) (disch := first | assumption | omega | rfl | decide | simp only [fitsR, Bool.and_self]) [↓rules, rules, ↓rulesDp, rulesDq, lit_u64, Int.ofNat_inj, stops, q_int, q_bool, q_cap_Cap, c1]
    exact done_q hdom kn rfl rfl
  simp (maxSteps := 1000000) (disch := first | assumption | omega | rfl | decide | simp only [fitsR, Bool.and_self]) [↓rules, rules, ↓rulesDp, rulesDq, lit_u64, Int.ofNat_inj, stops, q_int, q_bool, q_cap_Cap, c1]
  refine rcall_quiet rfl (cap_in _ _ _ _ _) ?_
  by_cases c2 : 0 ≤ b ∧ b ≤ 47
  case neg =>
    rw [goodC_no (by omega)]
    simp (maxSteps := 1000000) (disch := first | assumption | omega | rfl | decide | simp only [fitsR, Bool.and_self]) [↓rules, rules, ↓rulesDp, rulesDq, lit_u64, Int.ofNat_inj, stops, q_int, q_bool, q_cap_Cap, c2]
    exact done_q hdom kn rfl rfl
  simp (maxSteps := 1000000) (disch := first | assumption | omega | rfl | decide | simp only [fitsR, Bool.and_self]) [↓rules, rules, ↓rulesDp, rulesDq, lit_u64, Int.ofNat_inj, stops, q_int, q_bool, q_cap_Cap, c2]
  refine rcall_quiet rfl (right_Good _ _ _) ?_
  by_cases c3 : 0 ≤ c ∧ c ≤ 7
  case neg =>
    rw [goodC_no (by omega)]
    simp (maxSteps := 1000000) (disch := first | assumption | omega | rfl | decide | simp only [fitsR, Bool.and_self]) [↓rules, rules, ↓rulesDp, rulesDq, lit_u64, Int.ofNat_inj, stops, q_int, q_bool, q_cap_Cap, c3]
    exact done_q hdom kn rfl rfl
  simp (maxSteps := 1000000) (disch := first | assumption | omega | rfl | decide | simp only [fitsR, Bool.and_self]) [↓rules, rules, ↓rulesDp, rulesDq, lit_u64, Int.ofNat_inj, stops, q_int, q_bool, q_cap_Cap, c3]
  refine rcall_quiet rfl (right_Badge _ _ _) ?_
  by_cases c4 : 0 ≤ d ∧ d ≤ 65535
  case neg =>
    rw [goodC_no (by omega)]
    simp (maxSteps := 1000000) (disch := first | assumption | omega | rfl | decide | simp only [fitsR, Bool.and_self]) [↓rules, rules, ↓rulesDp, rulesDq, lit_u64, Int.ofNat_inj, stops, q_int, q_bool, q_cap_Cap, c4]
    exact done_q hdom kn rfl rfl
  by_cases c5 : d = 0
  · subst c5
    rw [goodC_iff.2 (by omega)]
    simp (maxSteps := 1000000) (disch := first | assumption | omega | rfl | decide | simp only [fitsR, Bool.and_self]) [↓rules, rules, ↓rulesDp, rulesDq, lit_u64, Int.ofNat_inj, stops, q_int, q_bool, q_cap_Cap]
    exact done_q hdom kn rfl rfl
  simp (maxSteps := 1000000) (disch := first | assumption | omega | rfl | decide | simp only [fitsR, Bool.and_self]) [↓rules, rules, ↓rulesDp, rulesDq, lit_u64, Int.ofNat_inj, stops, q_int, q_bool, q_cap_Cap, c4, c5]
  refine rcall_quiet rfl (cap_badged _ _ _) ?_
  by_cases c6 : a = 3 ∨ a = 4
  · rw [goodC_iff.2 (by omega), decide_eq_true c6]
    simp (maxSteps := 1000000) (disch := first | assumption | omega | rfl | decide | simp only [fitsR, Bool.and_self]) [↓rules, rules, ↓rulesDp, rulesDq, lit_u64, Int.ofNat_inj, stops, q_int, q_bool, q_cap_Cap]
    exact done_q hdom kn rfl rfl
  · rw [goodC_no (by omega), decide_eq_false c6]
    simp (maxSteps := 1000000) (disch := first | assumption | omega | rfl | decide | simp only [fitsR, Bool.and_self]) [↓rules, rules, ↓rulesDp, rulesDq, lit_u64, Int.ofNat_inj, stops, q_int, q_bool, q_cap_Cap]
    exact done_q hdom kn rfl rfl
/-! ### Rights -/
def ofR (r : Int) : Int := if 0 ≤ r ∧ r ≤ 7 then r else 0
def bothR (r s : Int) : Int := bAnd .i64 (ofR r) (ofR s)
def lessR (r s : Int) : Int := bAndNot .i64 (ofR r) (ofR s)
theorem right_of (r : Int) (g : AMem) (n : Nat) : FnC Try.prog f_right_of [.int .i64 r] g n (fun _ => False) (.int .i64 (ofR r)) g n := by
  refine fnC_of_rwp t_right_of hm rfl fun hdom => ?_
  simp (maxSteps := 1000000) (disch := first | assumption | omega | rfl | decide | simp only [fitsR, Bool.and_self]) [↓rules, rules, ↓rulesDp, rulesDq, lit_u64, Int.ofNat_inj, stops, rc_right_of, q_int, q_bool]
  refine rcall_quiet rfl (right_Good _ _ _) ?_
  unfold ofR
  by_cases c : 0 ≤ r ∧ r ≤ 7
  · rw [if_pos c]
    simp (maxSteps := 1000000) (disch := first | assumption | omega | rfl | decide | simp only [fitsR, Bool.and_self]) [↓rules, rules, ↓rulesDp, rulesDq, lit_u64, Int.ofNat_inj, stops, q_int, q_bool, c]
    exact done_q hdom (by repeat first | exact Kept.refl hdom | refine Kept.new ?_ _ | refine Kept.drop ?_ (by omega) | refine Kept.put ?_ (by omega) (by omega) _ | refine Kept.skip ?_) rfl rfl
  · rw [if_neg c]
    simp (maxSteps := 1000000) (disch := first | assumption | omega | rfl | decide | simp only [fitsR, Bool.and_self]) [↓rules, rules, ↓rulesDp, rulesDq, lit_u64, Int.ofNat_inj, stops, q_int, q_bool, c]
    exact done_q hdom (by repeat first | exact Kept.refl hdom | refine Kept.new ?_ _ | refine Kept.drop ?_ (by omega) | refine Kept.put ?_ (by omega) (by omega) _ | refine Kept.skip ?_) rfl rfl
theorem right_Less (r s : Int) (g : AMem) (n : Nat) : FnC Try.prog f_right_Less [.int .i64 r, .int .i64 s] g n (fun _ => False) (.int .i64 (lessR r s)) g n := by
  refine fnC_of_rwp t_right_Less hm rfl fun hdom => ?_
  simp (maxSteps := 1000000) (disch := first | assumption | omega | rfl | decide | simp only [fitsR, Bool.and_self]) [↓rules, rules, ↓rulesDp, rulesDq, lit_u64, Int.ofNat_inj, stops, rc_right_Less, q_int]
  refine rcall_quiet rfl (right_of _ _ _) ?_
  simp (maxSteps := 1000000) (disch := first | assumption | omega | rfl | decide | simp only [fitsR, Bool.and_self]) [↓rules, rules, ↓rulesDp, rulesDq, lit_u64, Int.ofNat_inj, stops, q_int]
  refine rcall_quiet rfl (right_of _ _ _) ?_
  simp (maxSteps := 1000000) (disch := first | assumption | omega | rfl | decide | simp only [fitsR, Bool.and_self]) [↓rules, rules, ↓rulesDp, rulesDq, lit_u64, Int.ofNat_inj, stops, q_int]
  exact done_q hdom (by repeat first | exact Kept.refl hdom | refine Kept.new ?_ _ | refine Kept.drop ?_ (by omega) | refine Kept.put ?_ (by omega) (by omega) _ | refine Kept.skip ?_) rfl rfl
theorem right_Within (r s : Int) (g : AMem) (n : Nat) : FnC Try.prog f_right_Within [.int .i64 r, .int .i64 s] g n (fun _ => False) (.bool (decide (lessR r s = 0))) g n := by
  refine fnC_of_rwp t_right_Within hm rfl fun hdom => ?_
  simp (maxSteps := 1000000) (disch := first | assumption | omega | rfl | decide | simp only [fitsR, Bool.and_self]) [↓rules, rules, ↓rulesDp, rulesDq, lit_u64, Int.ofNat_inj, stops, rc_right_Within, q_int, q_bool]
  refine rcall_quiet rfl (right_Less _ _ _ _) ?_
  simp (maxSteps := 1000000) (disch := first | assumption | omega | rfl | decide | simp only [fitsR, Bool.and_self]) [↓rules, rules, ↓rulesDp, rulesDq, lit_u64, Int.ofNat_inj, stops, q_int, q_bool]
  exact done_q hdom (by repeat first | exact Kept.refl hdom | refine Kept.new ?_ _ | refine Kept.drop ?_ (by omega) | refine Kept.put ?_ (by omega) (by omega) _ | refine Kept.skip ?_) rfl rfl
def cutC (a b c d r : Int) : Int × Int × Int × Int := if goodC a b c d = true then (a, b, bothR c r, d) else (0, 0, 0, 0)
abbrev c4p (x : Int × Int × Int × Int) : Value := c4 x.1 x.2.1 x.2.2.1 x.2.2.2
def stampC (a b c d k : Int) : (Int × Int × Int × Int) × Int :=
  if goodC a b c d = false ∨ ¬ (0 ≤ k ∧ k ≤ 65535) ∨ k = 0 then ((0, 0, 0, 0), 1) else if ¬ (a = 3 ∨ a = 4) then ((0, 0, 0, 0), 7) else if d ≠ 0 then ((0, 0, 0, 0), 5) else ((a, b, c, k), 0)
def lessC (a b c d a' b' c' d' : Int) : Bool := noneC a b c d || decide (a = a' ∧ b = b' ∧ lessR c c' = 0 ∧ (d' = 0 ∨ d' = d))
theorem lessC_iff {a b c d a' b' c' d' : Int} : lessC a b c d a' b' c' d' = true ↔ (a = 0 ∧ b = 0 ∧ c = 0 ∧ d = 0) ∨ (a = a' ∧ b = b' ∧ lessR c c' = 0 ∧ (d' = 0 ∨ d' = d)) := by
  unfold lessC; rw [Bool.or_eq_true, noneC_iff, decide_eq_true_eq]
theorem lessC_no {a b c d a' b' c' d' : Int} (h : ¬ ((a = 0 ∧ b = 0 ∧ c = 0 ∧ d = 0) ∨ (a = a' ∧ b = b' ∧ lessR c c' = 0 ∧ (d' = 0 ∨ d' = d)))) : lessC a b c d a' b' c' d' = false := by
  cases e : lessC a b c d a' b' c' d'
  · rfl
  · exact absurd (lessC_iff.1 e) h
theorem cap_Less (a b c d a' b' c' d' : Int) (g : AMem) (n : Nat) : FnC Try.prog f_cap_Less [c4 a b c d, c4 a' b' c' d'] g n (fun _ => False) (.bool (lessC a b c d a' b' c' d')) g n := by
  refine fnC_of_rwp t_cap_Less hm rfl fun hdom => ?_
  simp (maxSteps := 1000000) (disch := first | assumption | omega | rfl | decide | simp only [fitsR, Bool.and_self]) [↓rules, rules, ↓rulesDp, rulesDq, lit_u64, Int.ofNat_inj, stops, rc_cap_Less, q_int, q_bool, q_cap_Cap]
  refine rcall_quiet rfl (cap_None _ _ _ _ _ _) ?_
  cases cn : noneC a b c d
  case true =>
    rw [lessC_iff.2 (.inl (noneC_iff.1 cn))]
    simp (maxSteps := 1000000) (disch := first | assumption | omega | rfl | decide | simp only [fitsR, Bool.and_self]) [↓rules, rules, ↓rulesDp, rulesDq, lit_u64, Int.ofNat_inj, stops, q_int, q_bool, q_cap_Cap]
    exact done_q hdom (by repeat first | exact Kept.refl hdom | refine Kept.new ?_ _ | refine Kept.drop ?_ (by omega) | refine Kept.put ?_ (by omega) (by omega) _ | refine Kept.skip ?_) rfl rfl
  have cn' : ¬ (a = 0 ∧ b = 0 ∧ c = 0 ∧ d = 0) := fun h => by rw [noneC_iff.2 h] at cn; cases cn
  have kn := ((Kept.refl hdom).new (.row [.int .i64 a, .int .i64 b, .int .i64 c, .int .i64 d] true)).new (.row [.int .i64 a', .int .i64 b', .int .i64 c', .int .i64 d'] true)
  by_cases c1 : a = a'
  case neg =>
    rw [lessC_no (by omega)]
    simp (maxSteps := 1000000) (disch := first | assumption | omega | rfl | decide | simp only [fitsR, Bool.and_self]) [↓rules, rules, ↓rulesDp, rulesDq, lit_u64, Int.ofNat_inj, stops, q_int, q_bool, q_cap_Cap, c1]
    exact done_q hdom kn rfl rfl
  by_cases c2 : b = b'
  case neg =>
    rw [lessC_no (by omega)]
    subst c1
    simp (maxSteps := 1000000) (disch := first | assumption | omega | rfl | decide | simp only [fitsR, Bool.and_self]) [↓rules, rules, ↓rulesDp, rulesDq, lit_u64, Int.ofNat_inj, stops, q_int, q_bool, q_cap_Cap, c2]
    exact done_q hdom kn rfl rfl
  have hl := lessC_iff (a := a) (b := b) (c := c) (d := d) (a' := a') (b' := b') (c' := c') (d' := d')
  have hl2 := lessC_no (a := a) (b := b) (c := c) (d := d) (a' := a') (b' := b') (c' := c') (d' := d')
  generalize lessC a b c d a' b' c' d' = r at *
  subst c1 c2
  simp (maxSteps := 1000000) (disch := first | assumption | omega | rfl | decide | simp only [fitsR, Bool.and_self]) [↓rules, rules, ↓rulesDp, rulesDq, lit_u64, Int.ofNat_inj, stops, q_int, q_bool, q_cap_Cap]
  refine rcall_quiet rfl (right_Within _ _ _ _) ?_
  by_cases c3 : lessR c c' = 0
  case neg =>
    rw [hl2 (by rintro (h | h); exact cn' h; exact c3 h.2.2.1), decide_eq_false c3]
    simp (maxSteps := 1000000) (disch := first | assumption | omega | rfl | decide | simp only [fitsR, Bool.and_self]) [↓rules, rules, ↓rulesDp, rulesDq, lit_u64, Int.ofNat_inj, stops, q_int, q_bool, q_cap_Cap]
    exact done_q hdom kn rfl rfl
  rw [decide_eq_true c3]
  by_cases c4 : d' = 0
  · subst c4
    rw [hl.2 (.inr ⟨rfl, rfl, c3, .inl rfl⟩)]
    simp (maxSteps := 1000000) (disch := first | assumption | omega | rfl | decide | simp only [fitsR, Bool.and_self]) [↓rules, rules, ↓rulesDp, rulesDq, lit_u64, Int.ofNat_inj, stops, q_int, q_bool, q_cap_Cap]
    exact done_q hdom kn rfl rfl
  by_cases c5 : d' = d
  · rw [hl.2 (.inr ⟨rfl, rfl, c3, .inr c5⟩)]
    subst c5
    simp (maxSteps := 1000000) (disch := first | assumption | omega | rfl | decide | simp only [fitsR, Bool.and_self]) [↓rules, rules, ↓rulesDp, rulesDq, lit_u64, Int.ofNat_inj, stops, q_int, q_bool, q_cap_Cap, c4]
    exact done_q hdom kn rfl rfl
  · rw [hl2 (by rintro (h | h); exact cn' h; exact h.2.2.2.elim c4 c5)]
    simp (maxSteps := 1000000) (disch := first | assumption | omega | rfl | decide | simp only [fitsR, Bool.and_self]) [↓rules, rules, ↓rulesDp, rulesDq, lit_u64, Int.ofNat_inj, stops, q_int, q_bool, q_cap_Cap, c4, c5]
    exact done_q hdom kn rfl rfl
end Go.Proofs.Ytkcahnefekkfaaa.F13W

namespace Go.Proofs.Ytkcahnefekkfaaa.F13W
open Go Go.Proofs Go.Proofs.YtkcahnefekkfaaaAbs
variable [Base]
set_option maxHeartbeats 4000000
set_option maxRecDepth 10000
/-- A thing. -/
structure Th where
  ty : Int
  bits : Int
  base : Int
  size : Int
  used : Int
  frm : Int
  badge : Int
  full : Bool
  word : BitVec 64
  d0 : BitVec 64
  d1 : BitVec 64
  d2 : BitVec 64
  d3 : BitVec 64
def cT (t : Th) : List Value := [.int .i64 t.ty, .int .i64 t.bits, .int .i64 t.base, .int .i64 t.size, .int .i64 t.used, .int .i64 t.frm, .int .i64 t.badge, .bool t.full, U t.word, U t.d0, U t.d1, U t.d2, U t.d3]
abbrev vT (t : Th) : Value := .agg #[.int .i64 t.ty, .int .i64 t.bits, .int .i64 t.base, .int .i64 t.size, .int .i64 t.used, .int .i64 t.frm, .int .i64 t.badge, .bool t.full, U t.word, U t.d0, U t.d1, U t.d2, U t.d3]
def sameT (a b : Th) : Bool := decide (a.ty = b.ty) && decide (a.bits = b.bits) && decide (a.base = b.base) && decide (a.size = b.size) && decide (a.used = b.used) && decide (a.frm = b.frm) && decide (a.badge = b.badge) && decide (a.full = b.full) && decide (a.word = b.word) && decide (a.d0 = b.d0) && decide (a.d1 = b.d1) && decide (a.d2 = b.d2) && decide (a.d3 = b.d3)
theorem sameT_iff {a b : Th} : sameT a b = true ↔ a = b := by
  cases a; cases b; simp [sameT, and_assoc]
def noT : Th := ⟨0, 0, 0, 0, 0, 0, 0, false, 0#64, 0#64, 0#64, 0#64, 0#64⟩
def ownT (t : Th) : Th :=
  if t.ty = 1 then { noT with ty := t.ty, size := t.size, used := t.used }
  else if t.ty = 2 then { noT with ty := t.ty, bits := t.bits, base := t.base }
  else if t.ty = 3 then (if t.full = true then { noT with ty := t.ty, full := true, word := t.word, badge := t.badge, frm := t.frm } else { noT with ty := t.ty })
  else if t.ty = 4 then { noT with ty := t.ty, word := t.word }
  else if t.ty = 5 then { noT with ty := t.ty, d0 := t.d0, d1 := t.d1, d2 := t.d2, d3 := t.d3 }
  else noT
def inI (n low high : Int) : Bool := decide (low ≤ n) && decide (n ≤ high)
theorem thing_in (n low high : Int) (g : AMem) (m : Nat) : FnC Try.prog f_thing_in [.int .i64 n, .int .i64 low, .int .i64 high] g m (fun _ => False) (.bool (inI n low high)) g m := by
  refine fnC_of_rwp t_thing_in hm rfl fun hdom => ?_
  by_cases c : low ≤ n
  · rw [show inI n low high = decide (n ≤ high) by simp [inI, c]]
    simp (maxSteps := 1000000) (disch := first | assumption | omega | rfl | decide) [↓rules, rules, lit_u64, aEval_U, splice_nil, splice_zero, splice_step, gset_gset, Int.ofNat_inj, U_junk, U_cells, U_cellOk, ub_and, ub_or, ub_xor, ub_andNot, ub_add, ub_sub, ub_mul, ub_shl, ub_shr, ub_shl', ub_shr', ub_eql, ub_neq, ub_lss, ub_leq, ub_gtr, ub_geq, rc_thing_in, c]
    exact done_q hdom (Kept.refl hdom) rfl rfl
  · rw [show inI n low high = false by simp [inI, c]]
    simp (maxSteps := 1000000) (disch := first | assumption | omega | rfl | decide) [↓rules, rules, lit_u64, aEval_U, splice_nil, splice_zero, splice_step, gset_gset, Int.ofNat_inj, U_junk, U_cells, U_cellOk, ub_and, ub_or, ub_xor, ub_andNot, ub_add, ub_sub, ub_mul, ub_shl, ub_shr, ub_shl', ub_shr', ub_eql, ub_neq, ub_lss, ub_leq, ub_gtr, ub_geq, rc_thing_in, c]
    exact done_q hdom (Kept.refl hdom) rfl rfl
theorem thing_own (t : Th) (g : AMem) (n : Nat) : FnC Try.prog f_thing_own [vT t] g n (fun _ => False) (vT (ownT t)) g n := by
  refine fnC_of_rwp t_thing_own hm rfl fun hdom => ?_
  obtain ⟨ty, bits, base, size, used, frm, badge, full, word, d0, d1, d2, d3⟩ := t
  by_cases c1 : ty = 1
  · subst c1
    simp (maxSteps := 1000000) (disch := first | assumption | omega | rfl | decide | simp only [fitsR, Bool.and_self]) [↓rules, rules, ↓rulesDp, rulesDq, lit_u64, Int.ofNat_inj, rc_thing_own, q_int, q_bool, q_uint64, q_A4_uint64, q_thing_Thing, do_buildS tz_thing_Thing tp_thing_Thing]
    refine done_q hdom (((Kept.refl hdom).new _).new _) rfl ?_
    simp (maxSteps := 1000000) (disch := first | assumption | omega | rfl | decide | simp only [fitsR, Bool.and_self]) [↓rules, rules, ↓rulesDp, rulesDq, lit_u64, Int.ofNat_inj, aResults, aRes, q_int, q_bool, q_uint64, q_A4_uint64, q_thing_Thing, ownT, noT]
  by_cases c2 : ty = 2
  · subst c2
    simp (maxSteps := 1000000) (disch := first | assumption | omega | rfl | decide | simp only [fitsR, Bool.and_self]) [↓rules, rules, ↓rulesDp, rulesDq, lit_u64, Int.ofNat_inj, rc_thing_own, q_int, q_bool, q_uint64, q_A4_uint64, q_thing_Thing, do_buildS tz_thing_Thing tp_thing_Thing]
    refine done_q hdom (((Kept.refl hdom).new _).new _) rfl ?_
    simp (maxSteps := 1000000) (disch := first | assumption | omega | rfl | decide | simp only [fitsR, Bool.and_self]) [↓rules, rules, ↓rulesDp, rulesDq, lit_u64, Int.ofNat_inj, aResults, aRes, q_int, q_bool, q_uint64, q_A4_uint64, q_thing_Thing, ownT, noT]
  by_cases c3 : ty = 3
  · subst c3
    cases full
    · simp (maxSteps := 1000000) (disch := first | assumption | omega | rfl | decide | simp only [fitsR, Bool.and_self]) [↓rules, rules, ↓rulesDp, rulesDq, lit_u64, Int.ofNat_inj, rc_thing_own, q_int, q_bool, q_uint64, q_A4_uint64, q_thing_Thing, do_buildS tz_thing_Thing tp_thing_Thing]
      refine done_q hdom (((Kept.refl hdom).new _).new _) rfl ?_
      simp (maxSteps := 1000000) (disch := first | assumption | omega | rfl | decide | simp only [fitsR, Bool.and_self]) [↓rules, rules, ↓rulesDp, rulesDq, lit_u64, Int.ofNat_inj, aResults, aRes, q_int, q_bool, q_uint64, q_A4_uint64, q_thing_Thing, ownT, noT]
    · simp (maxSteps := 1000000) (disch := first | assumption | omega | rfl | decide | simp only [fitsR, Bool.and_self]) [↓rules, rules, ↓rulesDp, rulesDq, lit_u64, Int.ofNat_inj, rc_thing_own, q_int, q_bool, q_uint64, q_A4_uint64, q_thing_Thing, do_buildS tz_thing_Thing tp_thing_Thing]
      refine done_q hdom (((Kept.refl hdom).new _).new _) rfl ?_
      simp (maxSteps := 1000000) (disch := first | assumption | omega | rfl | decide | simp only [fitsR, Bool.and_self]) [↓rules, rules, ↓rulesDp, rulesDq, lit_u64, Int.ofNat_inj, aResults, aRes, q_int, q_bool, q_uint64, q_A4_uint64, q_thing_Thing, ownT, noT]
  by_cases c4 : ty = 4
  · subst c4
    simp (maxSteps := 1000000) (disch := first | assumption | omega | rfl | decide | simp only [fitsR, Bool.and_self]) [↓rules, rules, ↓rulesDp, rulesDq, lit_u64, Int.ofNat_inj, rc_thing_own, q_int, q_bool, q_uint64, q_A4_uint64, q_thing_Thing, do_buildS tz_thing_Thing tp_thing_Thing]
    refine done_q hdom (((Kept.refl hdom).new _).new _) rfl ?_
    simp (maxSteps := 1000000) (disch := first | assumption | omega | rfl | decide | simp only [fitsR, Bool.and_self]) [↓rules, rules, ↓rulesDp, rulesDq, lit_u64, Int.ofNat_inj, aResults, aRes, q_int, q_bool, q_uint64, q_A4_uint64, q_thing_Thing, ownT, noT]
  by_cases c5 : ty = 5
  · subst c5
    simp (maxSteps := 1000000) (disch := first | assumption | omega | rfl | decide | simp only [fitsR, Bool.and_self]) [↓rules, rules, ↓rulesDp, rulesDq, lit_u64, Int.ofNat_inj, rc_thing_own, q_int, q_bool, q_uint64, q_A4_uint64, q_thing_Thing, do_buildS tz_thing_Thing tp_thing_Thing]
    refine done_q hdom (((Kept.refl hdom).new _).new _) rfl ?_
    simp (maxSteps := 1000000) (disch := first | assumption | omega | rfl | decide | simp only [fitsR, Bool.and_self]) [↓rules, rules, ↓rulesDp, rulesDq, lit_u64, Int.ofNat_inj, aResults, aRes, q_int, q_bool, q_uint64, q_A4_uint64, q_thing_Thing, ownT, noT]
  simp (maxSteps := 1000000) (disch := first | assumption | omega | rfl | decide | simp only [fitsR, Bool.and_self]) [↓rules, rules, ↓rulesDp, rulesDq, lit_u64, Int.ofNat_inj, rc_thing_own, q_int, q_bool, q_uint64, q_A4_uint64, q_thing_Thing, do_buildS tz_thing_Thing tp_thing_Thing, c1, c2, c3, c4, c5]
  refine done_q hdom (((Kept.refl hdom).new _).new _) rfl ?_
  simp (maxSteps := 1000000) (disch := first | assumption | omega | rfl | decide | simp only [fitsR, Bool.and_self]) [↓rules, rules, ↓rulesDp, rulesDq, lit_u64, Int.ofNat_inj, aResults, aRes, q_int, q_bool, q_uint64, q_A4_uint64, q_thing_Thing, ownT, noT, c1, c2, c3, c4, c5]
def goodT (t : Th) : Bool := sameT (ownT t) t && (
  if t.ty = 1 then inI t.size 1 4096 && inI t.used 0 t.size
  else if t.ty = 2 then inI t.bits 1 4 && inI t.base 0 (96 - 2 ^ t.bits.toNat)
  else if t.ty = 3 then inI t.badge 0 65535 && inI t.frm 0 96
  else true)
theorem sameT_cells (a b : Th) : cellsEq (cT a) (cT b) = sameT a b := by
  simp only [cT, cellsEq_cons, cellsEq_nil, cellEq_int, cellEq_bool, cellEq_U, sameT, Bool.and_true, Bool.and_assoc]
theorem bne_vT (xo yo : Operand) (a b : Th) : aBin Try.prog .neq T_thing_Thing xo yo (vT a) (vT b) = some (.bool (!sameT a b)) := by
  rw [← sameT_cells]; exact bin_neq_agg te_thing_Thing ta_thing_Thing (xs := cT a) (ys := cT b) rfl rfl
theorem beq_vT (xo yo : Operand) (a b : Th) : aBin Try.prog .eql T_thing_Thing xo yo (vT a) (vT b) = some (.bool (sameT a b)) := by
  rw [← sameT_cells]; exact bin_eql_agg te_thing_Thing ta_thing_Thing (xs := cT a) (ys := cT b) rfl rfl
theorem thing_Good (t : Th) (g : AMem) (n : Nat) : FnC Try.prog f_thing_Good [vT t] g n (fun _ => False) (.bool (goodT t)) g n := by
  refine fnC_of_rwp t_thing_Good hm rfl fun hdom => ?_
  have kn := (Kept.refl hdom).new (.row (cT t) true)
  simp (maxSteps := 1000000) (disch := first | assumption | omega | rfl | decide | simp only [fitsR, Bool.and_self]) [↓rules, rules, ↓rulesDp, rulesDq, lit_u64, Int.ofNat_inj, rc_thing_Good, q_int, q_bool, q_uint64, q_A4_uint64, q_thing_Thing]
  refine rcall_quiet rfl (thing_own t _ _) ?_
  simp (maxSteps := 1000000) (disch := first | assumption | omega | rfl | decide | simp only [fitsR, Bool.and_self]) [↓rules, rules, ↓rulesDp, rulesDq, lit_u64, Int.ofNat_inj, q_int, q_bool, q_uint64, q_A4_uint64, q_thing_Thing, bne_vT]
  cases c : sameT (ownT t) t
  · simp (maxSteps := 1000000) (disch := first | assumption | omega | rfl | decide | simp only [fitsR, Bool.and_self]) [↓rules, rules, ↓rulesDp, rulesDq, lit_u64, Int.ofNat_inj]
    refine done_q hdom ((Kept.refl hdom).new _) rfl ?_
    rw [goodT, c]; rfl
  simp (maxSteps := 1000000) (disch := first | assumption | omega | rfl | decide | simp only [fitsR, Bool.and_self]) [↓rules, rules, ↓rulesDp, rulesDq, lit_u64, Int.ofNat_inj, q_int, q_bool, q_uint64, q_A4_uint64, q_thing_Thing]
  by_cases c1 : t.ty = 1
  · simp (maxSteps := 1000000) (disch := first | assumption | omega | rfl | decide | simp only [fitsR, Bool.and_self]) [↓rules, rules, ↓rulesDp, rulesDq, lit_u64, Int.ofNat_inj, q_int, q_bool, q_uint64, q_A4_uint64, q_thing_Thing, c1]
    refine rcall_quiet rfl (thing_in _ _ _ _ _) ?_
    cases c2 : inI t.size 1 4096
    · simp (maxSteps := 1000000) (disch := first | assumption | omega | rfl | decide | simp only [fitsR, Bool.and_self]) [↓rules, rules, ↓rulesDp, rulesDq, lit_u64, Int.ofNat_inj, c2]
      refine done_q hdom ((Kept.refl hdom).new _) rfl ?_
      rw [goodT, c, if_pos c1, c2]; rfl
    simp (maxSteps := 1000000) (disch := first | assumption | omega | rfl | decide | simp only [fitsR, Bool.and_self]) [↓rules, rules, ↓rulesDp, rulesDq, lit_u64, Int.ofNat_inj, q_int, q_bool, q_uint64, q_A4_uint64, q_thing_Thing]
    refine rcall_quiet rfl (thing_in _ _ _ _ _) ?_
    simp (maxSteps := 1000000) (disch := first | assumption | omega | rfl | decide | simp only [fitsR, Bool.and_self]) [↓rules, rules, ↓rulesDp, rulesDq, lit_u64, Int.ofNat_inj]
    refine done_q hdom ((Kept.refl hdom).new _) rfl ?_
    rw [goodT, c, if_pos c1, c2]; rfl
  by_cases c2 : t.ty = 2
  · simp (maxSteps := 1000000) (disch := first | assumption | omega | rfl | decide | simp only [fitsR, Bool.and_self]) [↓rules, rules, ↓rulesDp, rulesDq, lit_u64, Int.ofNat_inj, q_int, q_bool, q_uint64, q_A4_uint64, q_thing_Thing, c2]
    refine rcall_quiet rfl (thing_in _ _ _ _ _) ?_
    cases c3 : inI t.bits 1 4
    · simp (maxSteps := 1000000) (disch := first | assumption | omega | rfl | decide | simp only [fitsR, Bool.and_self]) [↓rules, rules, ↓rulesDp, rulesDq, lit_u64, Int.ofNat_inj, c3]
      refine done_q hdom ((Kept.refl hdom).new _) rfl ?_
      rw [goodT, c, if_neg c1, if_pos c2, c3]; rfl
    have c4 : 1 ≤ t.bits ∧ t.bits ≤ 4 := by simpa [inI] using c3
    have c5 : t.bits = 1 ∨ t.bits = 2 ∨ t.bits = 3 ∨ t.bits = 4 := by omega
    have e1 : aBin Try.prog .shl T_int (.const (.int .i64 1)) (.tmp 30) (.int .i64 1) (.int .i64 t.bits) = some (.int .i64 (2 ^ t.bits.toNat)) := by
      rw [bin_shl (by omega)]
      rcases c5 with e | e | e | e <;> rw [e] <;> rfl
    have e2 : IntKind.i64.wrap (96 - 2 ^ t.bits.toNat) = 96 - 2 ^ t.bits.toNat := by
      rcases c5 with e | e | e | e <;> rw [e] <;> rfl
    simp (maxSteps := 1000000) (disch := first | assumption | omega | rfl | decide | simp only [fitsR, Bool.and_self]) [↓rules, rules, ↓rulesDp, rulesDq, lit_u64, Int.ofNat_inj, q_int, q_bool, q_uint64, q_A4_uint64, q_thing_Thing, e1, e2]
    refine rcall_quiet rfl (thing_in _ _ _ _ _) ?_
    simp (maxSteps := 1000000) (disch := first | assumption | omega | rfl | decide | simp only [fitsR, Bool.and_self]) [↓rules, rules, ↓rulesDp, rulesDq, lit_u64, Int.ofNat_inj]
    refine done_q hdom ((Kept.refl hdom).new _) rfl ?_
    rw [goodT, c, if_neg c1, if_pos c2, c3]; rfl
  by_cases c3 : t.ty = 3
  · simp (maxSteps := 1000000) (disch := first | assumption | omega | rfl | decide | simp only [fitsR, Bool.and_self]) [↓rules, rules, ↓rulesDp, rulesDq, lit_u64, Int.ofNat_inj, q_int, q_bool, q_uint64, q_A4_uint64, q_thing_Thing, c3]
    refine rcall_quiet rfl (thing_in _ _ _ _ _) ?_
    cases c4 : inI t.badge 0 65535
    · simp (maxSteps := 1000000) (disch := first | assumption | omega | rfl | decide | simp only [fitsR, Bool.and_self]) [↓rules, rules, ↓rulesDp, rulesDq, lit_u64, Int.ofNat_inj, c4]
      refine done_q hdom ((Kept.refl hdom).new _) rfl ?_
      rw [goodT, c, if_neg c1, if_neg c2, if_pos c3, c4]; rfl
    simp (maxSteps := 1000000) (disch := first | assumption | omega | rfl | decide | simp only [fitsR, Bool.and_self]) [↓rules, rules, ↓rulesDp, rulesDq, lit_u64, Int.ofNat_inj, q_int, q_bool, q_uint64, q_A4_uint64, q_thing_Thing]
    refine rcall_quiet rfl (thing_in _ _ _ _ _) ?_
    simp (maxSteps := 1000000) (disch := first | assumption | omega | rfl | decide | simp only [fitsR, Bool.and_self]) [↓rules, rules, ↓rulesDp, rulesDq, lit_u64, Int.ofNat_inj]
    refine done_q hdom ((Kept.refl hdom).new _) rfl ?_
    rw [goodT, c, if_neg c1, if_neg c2, if_pos c3, c4]; rfl
  simp (maxSteps := 1000000) (disch := first | assumption | omega | rfl | decide | simp only [fitsR, Bool.and_self]) [↓rules, rules, ↓rulesDp, rulesDq, lit_u64, Int.ofNat_inj, q_int, q_bool, q_uint64, q_A4_uint64, q_thing_Thing, c1, c2, c3]
  refine done_q hdom ((Kept.refl hdom).new _) rfl ?_
  rw [goodT, c, if_neg c1, if_neg c2, if_neg c3]; rfl
end Go.Proofs.Ytkcahnefekkfaaa.F13W

namespace Go.Proofs.Ytkcahnefekkfaaa.F13W
open Go Go.Proofs Go.Proofs.YtkcahnefekkfaaaAbs
variable [Base]
set_option maxRecDepth 100000
/-! ### Forests, with no program in sight -/
/-- What a place came of. -/
def upAt (u : List Int) (i : Int) : Int := u.getD i.toNat (-2)
def isF (u : List Int) (i : Int) : Bool := decide (0 ≤ i ∧ i < u.length ∧ upAt u i ≠ -2)
def upOk (u : List Int) (x : Int) : Bool := decide (x = -2 ∨ x = -1) || isF u x
def okUp (u : List Int) : Bool := u.all (upOk u)
def walkF (u : List Int) : Nat → Int → Bool
  | 0, a => !isF u a
  | f + 1, a => !isF u a || walkF u f (upAt u a)
def goodF (u : List Int) : Bool := decide (u.length ≤ 96) && (okUp u && (List.range u.length).all fun i => walkF u (u.length + 1) i)
def dpF (u : List Int) : Nat → Int → Nat
  | 0, _ => 0
  | f + 1, i => if isF u (upAt u i) = true then dpF u f (upAt u i) + 1 else 0
/-- How deep a place is. -/
def dpt (u : List Int) (i : Int) : Nat := dpF u (u.length + 2) i
theorem isF_iff {u : List Int} {i : Int} : isF u i = true ↔ 0 ≤ i ∧ i < u.length ∧ upAt u i ≠ -2 := by simp [isF]
theorem upAt_nat {u : List Int} {i : Nat} (h : i < u.length) : upAt u i = u[i] := by simp [upAt, h]
theorem upAt_int {u : List Int} {i : Int} (h0 : 0 ≤ i) (h : i < u.length) : ∃ h' : i.toNat < u.length, upAt u i = u[i.toNat] := ⟨by omega, by simp [upAt, show i.toNat < u.length by omega]⟩
theorem ne_root {u : List Int} : isF u (-1) = false := by simp [isF]
theorem ne_two {u : List Int} : isF u (-2) = false := by simp [isF]
theorem dpF_stable {u : List Int} : ∀ (f : Nat) (a : Int), isF u a = true → walkF u f a = true → ∀ f', f ≤ f' → dpF u f' a = dpF u f a
  | 0, a, h, hw, f', hf => by rw [walkF, h] at hw; cases hw
  | f + 1, a, h, hw, f', hf => by
    rw [walkF, h] at hw
    obtain ⟨k, rfl⟩ : ∃ k, f' = k + 1 := ⟨f' - 1, by omega⟩
    rw [dpF, dpF]
    split
    · rename_i h1; rw [dpF_stable f _ h1 (by simpa using hw) k (by omega)]
    · rfl
/-- A rank: how deep each is. -/
structure RkF (u : List Int) (r : Int → Nat) : Prop where
  root : ∀ i, isF u i = true → upAt u i = -1 → r i = 0
  step : ∀ i, isF u i = true → upAt u i ≠ -1 → isF u (upAt u i) = true ∧ r i = r (upAt u i) + 1
theorem good_parts {u : List Int} (h : goodF u = true) : u.length ≤ 96 ∧ okUp u = true ∧ ∀ i, i < u.length → walkF u (u.length + 1) i = true := by
  simp only [goodF, Bool.and_eq_true, decide_eq_true_eq, List.all_eq_true, List.mem_range] at h
  exact ⟨h.1, h.2.1, h.2.2⟩
theorem ok_at {u : List Int} (h : okUp u = true) {i : Int} (hi : isF u i = true) (h1 : upAt u i ≠ -1) : isF u (upAt u i) = true := by
  obtain ⟨a, b, c⟩ := isF_iff.1 hi
  obtain ⟨h', e⟩ := upAt_int a b
  have := List.all_eq_true.1 h _ (List.getElem_mem h')
  rw [← e] at this
  simp only [upOk, Bool.or_eq_true, decide_eq_true_eq] at this
  rcases this with (h | h) | h
  · exact absurd h c
  · exact absurd h h1
  · exact h
theorem good_rk {u : List Int} (h : goodF u = true) : RkF u (dpt u) := by
  obtain ⟨h1, h2, h3⟩ := good_parts h
  refine ⟨fun i hi hr => ?_, fun i hi hr => ?_⟩
  · rw [dpt, dpF, hr, ne_root]; rfl
  · have hu := ok_at h2 hi hr
    refine ⟨hu, ?_⟩
    obtain ⟨a, b, c⟩ := isF_iff.1 hi
    have hw := h3 i.toNat (by omega)
    rw [show ((i.toNat : Nat) : Int) = i by omega, walkF, hi] at hw
    have hw : walkF u u.length (upAt u i) = true := by simpa using hw
    rw [dpt, dpF, if_pos hu, dpt, dpF_stable _ _ hu hw (u.length + 1) (by omega), dpF_stable _ _ hu hw (u.length + 2) (by omega)]
theorem countP_lt {α : Type} {p q : α → Bool} : ∀ {l : List α} (h : ∀ x, x ∈ l → p x = true → q x = true) {a : α}, a ∈ l → q a = true → p a = false → l.countP p + 1 ≤ l.countP q
  | x :: l, h, a, ha, hq, hp => by
    have hx := h x List.mem_cons_self
    have hm := List.countP_mono_left (l := l) (p := p) (q := q) fun x hx => h x (List.mem_cons_of_mem _ hx)
    rcases List.mem_cons.1 ha with rfl | ha
    · rw [List.countP_cons_of_pos hq, List.countP_cons_of_neg (by simp [hp])]; omega
    · have ih := countP_lt (fun x hx => h x (List.mem_cons_of_mem _ hx)) ha hq hp
      rw [List.countP_cons, List.countP_cons]
      cases e : p x
      · simp; omega
      · rw [hx e]; simp; omega
theorem RkF.count {u : List Int} {r : Int → Nat} (h : RkF u r) : ∀ (d : Nat) (i : Int), isF u i = true → r i = d → d + 1 ≤ (List.range u.length).countP fun k : Nat => isF u k && decide (r k ≤ d)
  | d, i, hi, hd => by
    obtain ⟨a, b, c⟩ := isF_iff.1 hi
    have hm : i.toNat ∈ List.range u.length := List.mem_range.2 (by omega)
    have ei : ((i.toNat : Nat) : Int) = i := by omega
    cases d with
    | zero =>
      exact List.countP_pos_iff.2 ⟨_, hm, by simp [ei, hi, hd]⟩
    | succ d =>
      have hr : upAt u i ≠ -1 := fun hr => by have := h.root i hi hr; omega
      obtain ⟨h1, h2⟩ := h.step i hi hr
      have ih := h.count d _ h1 (by omega)
      refine Nat.le_trans (Nat.succ_le_succ ih) (countP_lt (fun x _ hx => ?_) hm ?_ ?_)
      · simp only [Bool.and_eq_true, decide_eq_true_eq] at hx ⊢; exact ⟨hx.1, by omega⟩
      · simp [ei, hi, hd]
      · simp [ei, hd]
theorem RkF.lt {u : List Int} {r : Int → Nat} (h : RkF u r) {i : Int} (hi : isF u i = true) : r i < u.length := by
  have h1 := h.count _ i hi rfl
  have h2 := List.countP_le_length (p := fun k : Nat => isF u k && decide (r k ≤ r i)) (l := List.range u.length)
  rw [List.length_range] at h2
  omega
theorem RkF.walk {u : List Int} {r : Int → Nat} (h : RkF u r) : ∀ (f : Nat) (a : Int), (isF u a = true → r a < f) → walkF u f a = true
  | 0, a, ha => by
    rw [walkF]
    cases e : isF u a
    · rfl
    · exact absurd (ha e) (by omega)
  | f + 1, a, ha => by
    rw [walkF]
    cases e : isF u a
    · rfl
    · refine h.walk f _ fun hu => ?_
      have hr : upAt u a ≠ -1 := fun hr => by rw [hr, ne_root] at hu; cases hu
      have := (h.step a e hr).2
      have := ha e
      omega
theorem RkF.ok {u : List Int} {r : Int → Nat} (h : RkF u r) : okUp u = true := by
  refine List.all_eq_true.2 fun x hx => ?_
  obtain ⟨k, hk, rfl⟩ := List.getElem_of_mem hx
  have e := upAt_nat hk
  by_cases h1 : u[k] = -2
  · simp [upOk, h1]
  by_cases h2 : u[k] = -1
  · simp [upOk, h2]
  have hi : isF u k = true := isF_iff.2 ⟨by omega, by omega, by rw [e]; exact h1⟩
  have := (h.step k hi (by rw [e]; exact h2)).1
  rw [e] at this
  simp [upOk, this]
theorem RkF.good {u : List Int} {r : Int → Nat} (h : RkF u r) (hl : u.length ≤ 96) : goodF u = true := by
  simp only [goodF, Bool.and_eq_true, decide_eq_true_eq, List.all_eq_true, List.mem_range]
  exact ⟨hl, h.ok, fun i hi => h.walk _ _ fun hf => Nat.lt_succ_of_lt (h.lt hf)⟩
theorem RkF.uniq {u : List Int} {r r' : Int → Nat} (h : RkF u r) (h' : RkF u r') : ∀ (d : Nat) (i : Int), isF u i = true → r i = d → r' i = d
  | d, i, hi, hd => by
    by_cases hr : upAt u i = -1
    · rw [← hd, h.root i hi hr, h'.root i hi hr]
    · obtain ⟨h1, h2⟩ := h.step i hi hr
      obtain ⟨_, h3⟩ := h'.step i hi hr
      cases d with
      | zero => omega
      | succ d => rw [h3, h.uniq h' d _ h1 (by omega)]
theorem RkF.dptEq {u : List Int} {r : Int → Nat} (h : RkF u r) (hl : u.length ≤ 96) {i : Int} (hi : isF u i = true) : dpt u i = r i := (good_rk (h.good hl)).uniq h _ i hi rfl |>.symm
/-! ### Those above -/
def chF (u : List Int) : Nat → Int → List Int
  | 0, _ => []
  | f + 1, a => if isF u (upAt u a) = true then upAt u a :: chF u f (upAt u a) else []
def ancs (u : List Int) (a : Int) : List Int := chF u u.length a
theorem RkF.chEq {u : List Int} {r : Int → Nat} (h : RkF u r) : ∀ (f f' : Nat) (a : Int), isF u a = true → r a ≤ f → r a ≤ f' → chF u f a = chF u f' a
  | 0, 0, a, _, _, _ => rfl
  | 0, f' + 1, a, ha, h1, h2 => by
    rw [chF, chF, if_neg]
    intro hu
    have hr : upAt u a ≠ -1 := fun hr => by rw [hr, ne_root] at hu; cases hu
    have := (h.step a ha hr).2
    omega
  | f + 1, 0, a, ha, h1, h2 => by
    rw [chF, chF, if_neg]
    intro hu
    have hr : upAt u a ≠ -1 := fun hr => by rw [hr, ne_root] at hu; cases hu
    have := (h.step a ha hr).2
    omega
  | f + 1, f' + 1, a, ha, h1, h2 => by
    rw [chF, chF]
    split
    · rename_i hu
      have hr : upAt u a ≠ -1 := fun hr => by rw [hr, ne_root] at hu; cases hu
      have := (h.step a ha hr).2
      rw [h.chEq f f' _ hu (by omega) (by omega)]
    · rfl
theorem RkF.ancs_root {u : List Int} {r : Int → Nat} (h : RkF u r) {a : Int} (ha : isF u a = true) (hr : upAt u a = -1) : ancs u a = [] := by
  unfold ancs
  cases u.length with
  | zero => rfl
  | succ n => rw [chF, hr, ne_root]; rfl
theorem RkF.ancs_step {u : List Int} {r : Int → Nat} (h : RkF u r) {a : Int} (ha : isF u a = true) (hr : upAt u a ≠ -1) : ancs u a = upAt u a :: ancs u (upAt u a) := by
  obtain ⟨h1, h2⟩ := h.step a ha hr
  have h3 := h.lt ha
  have h4 := h.lt h1
  unfold ancs
  rw [h.chEq u.length (u.length + 1) a ha (by omega) (by omega), chF, if_pos h1]
theorem RkF.ancs_lt {u : List Int} {r : Int → Nat} (h : RkF u r) : ∀ (d : Nat) (a : Int), isF u a = true → r a = d → ∀ i, i ∈ ancs u a → isF u i = true ∧ r i < d
  | d, a, ha, hd, i, hi => by
    by_cases hr : upAt u a = -1
    · rw [h.ancs_root ha hr] at hi; cases hi
    · rw [h.ancs_step ha hr] at hi
      obtain ⟨h1, h2⟩ := h.step a ha hr
      rcases List.mem_cons.1 hi with rfl | hi
      · exact ⟨h1, by omega⟩
      · cases d with
        | zero => omega
        | succ d =>
          obtain ⟨h3, h4⟩ := h.ancs_lt d _ h1 (by omega) i hi
          exact ⟨h3, by omega⟩
/-- Straight from one. -/
def kidsF (u : List Int) (i : Int) : List Int := ((List.range u.length).filter fun k => decide (upAt u (k : Nat) = i)).map Int.ofNat
theorem mem_kids {u : List Int} {i k : Int} : k ∈ kidsF u i ↔ 0 ≤ k ∧ k < u.length ∧ upAt u k = i := by
  simp only [kidsF, List.mem_map, List.mem_filter, List.mem_range, decide_eq_true_eq]
  constructor
  · rintro ⟨a, ⟨h1, h2⟩, rfl⟩; exact ⟨Int.natCast_nonneg _, Int.ofNat_lt.2 h1, h2⟩
  · rintro ⟨h1, h2, h3⟩; exact ⟨k.toNat, ⟨by omega, by rw [show ((k.toNat : Nat) : Int) = k by omega]; exact h3⟩, show ((k.toNat : Nat) : Int) = k by omega⟩
theorem kids_nodup (u : List Int) (i : Int) : (kidsF u i).Nodup := by
  unfold kidsF
  refine List.Pairwise.map (R := fun a b => a ≠ b) _ (fun a b h e => h (Int.ofNat.inj e)) ?_
  exact List.Pairwise.filter _ List.nodup_range
theorem kids_is {u : List Int} {i k : Int} (hi : i ≠ -2) (h : k ∈ kidsF u i) : isF u k = true := by
  obtain ⟨h1, h2, h3⟩ := mem_kids.1 h
  exact isF_iff.2 ⟨h1, h2, by rw [h3]; exact hi⟩
/-- Is one below the other, or the same? -/
def subF (u : List Int) (j k : Int) : Bool := decide (j = k) || decide (j ∈ ancs u k)
def behF (u : List Int) : Nat → List Int → List Int
  | 0, _ => []
  | f + 1, l => l.flatMap fun i => i :: behF u f (kidsF u i)
theorem RkF.kids_count {u : List Int} {r : Int → Nat} (h : RkF u r) : ∀ (d : Nat) (i k : Int), i ≠ -2 → (i = -1 ∨ isF u i = true) → isF u k = true → r k = d →
    (kidsF u i).countP (fun j => subF u j k) = if i = -1 ∨ i ∈ ancs u k then 1 else 0
  | d, i, k, hi, hi', hk, hd => by
    obtain ⟨k0, k1, k2⟩ := isF_iff.1 hk
    by_cases hr : upAt u k = -1
    · rw [h.ancs_root hk hr]
      have e : (kidsF u i).countP (fun j => subF u j k) = (kidsF u i).count k := by
        unfold List.count
        refine List.countP_congr fun j _ => ?_
        simp [subF, h.ancs_root hk hr]
      rw [e]
      by_cases hm : k ∈ kidsF u i
      · have := (mem_kids.1 hm).2.2
        rw [(kids_nodup u i).count, if_pos hm, if_pos (Or.inl (by omega))]
      · rw [List.count_eq_zero_of_not_mem hm, if_neg]
        rintro (rfl | h)
        · exact hm (mem_kids.2 ⟨k0, k1, hr⟩)
        · cases h
    · obtain ⟨p1, p2⟩ := h.step k hk hr
      have ha := h.ancs_step hk hr
      by_cases hp : upAt u k = i
      · have e : (kidsF u i).countP (fun j => subF u j k) = (kidsF u i).count k := by
          unfold List.count
          refine List.countP_congr fun j hj => ?_
          have hj1 := (mem_kids.1 hj).2.2
          have hji := kids_is hi hj
          have hr' : upAt u j ≠ -1 := by rw [hj1, ← hp]; exact hr
          have := (h.step j hji hr').2
          have n1 : j ∉ ancs u k := fun hc => by
            rw [ha, hp] at hc
            rw [hj1] at this
            rcases List.mem_cons.1 hc with rfl | hc
            · omega
            · have := (h.ancs_lt _ _ (hp ▸ p1) rfl _ hc).2; omega
          simp [subF, n1]
        rw [e, (kids_nodup u i).count, if_pos (mem_kids.2 ⟨k0, k1, hp⟩), if_pos (Or.inr (by rw [ha, hp]; exact List.mem_cons_self))]
      · cases d with
        | zero => omega
        | succ d =>
          have ih := h.kids_count d i (upAt u k) hi hi' p1 (by omega)
          have e : (kidsF u i).countP (fun j => subF u j k) = (kidsF u i).countP (fun j => subF u j (upAt u k)) := by
            refine List.countP_congr fun j hj => ?_
            have hj1 := (mem_kids.1 hj).2.2
            have n1 : j ≠ k := fun e => hp (by rw [← e]; exact hj1)
            simp [subF, n1, ha]
          rw [e, ih, ha]
          have n2 : i ≠ upAt u k := fun e => hp e.symm
          simp [n2]
theorem beh_is {u : List Int} : ∀ (f : Nat) (l : List Int), (∀ j, j ∈ l → isF u j = true) → ∀ k, k ∈ behF u f l → isF u k = true
  | 0, l, hl, k, hk => by cases hk
  | f + 1, l, hl, k, hk => by
    simp only [behF, List.mem_flatMap, List.mem_cons] at hk
    obtain ⟨i, h1, h2⟩ := hk
    rcases h2 with rfl | h2
    · exact hl _ h1
    · have hi := hl i h1
      exact beh_is f _ (fun j hj => kids_is (fun e => by rw [e, ne_two] at hi; cases hi) hj) k h2
theorem RkF.beh_count {u : List Int} {r : Int → Nat} (h : RkF u r) : ∀ (f : Nat) (l : List Int), (∀ j, j ∈ l → isF u j = true ∧ u.length ≤ r j + f) → ∀ k, isF u k = true → (behF u f l).count k = l.countP (fun j => subF u j k)
  | 0, l, hl, k, hk => by
    cases l with
    | nil => rfl
    | cons j l => have := hl j List.mem_cons_self; have := h.lt this.1; omega
  | f + 1, [], hl, k, hk => rfl
  | f + 1, i :: l, hl, k, hk => by
    have ih := h.beh_count (f + 1) l (fun j hj => hl j (List.mem_cons_of_mem _ hj)) k hk
    obtain ⟨h1, h2⟩ := hl i List.mem_cons_self
    have hi : i ≠ -2 := fun e => by rw [e, ne_two] at h1; cases h1
    have hi1 : i ≠ -1 := fun e => by rw [e, ne_root] at h1; cases h1
    have ik := h.beh_count f (kidsF u i) (fun j hj => by
      have hj1 := (mem_kids.1 hj).2.2
      have hji := kids_is hi hj
      have hr' : upAt u j ≠ -1 := by rw [hj1]; exact hi1
      have := (h.step j hji hr').2
      rw [hj1] at this
      exact ⟨hji, by omega⟩) k hk
    rw [h.kids_count _ i k hi (Or.inr h1) hk rfl] at ik
    have e : behF u (f + 1) (i :: l) = i :: (behF u f (kidsF u i) ++ behF u (f + 1) l) := by
      simp only [behF, List.flatMap_cons, List.cons_append]
    rw [e, List.count_cons, List.count_append, ih, ik, List.countP_cons]
    by_cases c : i = k
    · subst c
      have n1 : i ∉ ancs u i := fun hc => by have := (h.ancs_lt _ i h1 rfl _ hc).2; omega
      simp [subF, n1, hi1]
    · by_cases c2 : i ∈ ancs u k
      · simp [subF, c, c2]; omega
      · simp [subF, c, c2, hi1]
/-- All below one. -/
def belF (u : List Int) (i : Int) : List Int := ((List.range u.length).filter fun k => isF u (k : Nat) && decide (i ∈ ancs u (k : Nat))).map Int.ofNat
theorem mem_bel {u : List Int} {i k : Int} : k ∈ belF u i ↔ isF u k = true ∧ i ∈ ancs u k := by
  simp only [belF, List.mem_map, List.mem_filter, List.mem_range, Bool.and_eq_true, decide_eq_true_eq]
  constructor
  · rintro ⟨a, ⟨h1, h2⟩, rfl⟩; exact h2
  · rintro ⟨h1, h2⟩
    obtain ⟨a, b, c⟩ := isF_iff.1 h1
    have e : ((k.toNat : Nat) : Int) = k := by omega
    exact ⟨k.toNat, ⟨by omega, by rw [e]; exact ⟨h1, h2⟩⟩, e⟩
theorem bel_sorted (u : List Int) (i : Int) : (belF u i).Pairwise (· < ·) := by
  unfold belF
  refine List.Pairwise.map (R := fun a b => a < b) _ (fun a b h => Int.ofNat_lt.2 h) ?_
  exact List.Pairwise.filter _ List.pairwise_lt_range
def sortI (l : List Int) : List Int := l.mergeSort fun x y => decide (x ≤ y)
theorem sortI_perm {l l' : List Int} (h : l.Perm l') (hs : l'.Pairwise (· < ·)) : sortI l = l' := by
  refine List.Perm.eq_of_pairwise (le := fun a b : Int => a ≤ b) (fun a b _ _ h1 h2 => by omega) ?_ (hs.imp fun h => by omega) ((List.mergeSort_perm _ _).trans h)
  have := List.pairwise_mergeSort (le := fun x y : Int => decide (x ≤ y)) (fun a b c => by simp; omega) (fun a b => by simp; omega) l
  exact this.imp fun h => by simpa using h
theorem RkF.bel_perm {u : List Int} {r : Int → Nat} (h : RkF u r) {i : Int} (hi : isF u i = true) {f : Nat} (hf : u.length ≤ r i + 1 + f) : (behF u f (kidsF u i)).Perm (belF u i) := by
  have hi2 : i ≠ -2 := fun e => by rw [e, ne_two] at hi; cases hi
  have hi1 : i ≠ -1 := fun e => by rw [e, ne_root] at hi; cases hi
  refine List.perm_iff_count.2 fun k => ?_
  by_cases hk : isF u k = true
  · rw [h.beh_count f _ (fun j hj => by
      have hj1 := (mem_kids.1 hj).2.2
      have hji := kids_is hi2 hj
      have := (h.step j hji (by rw [hj1]; exact hi1)).2
      rw [hj1] at this
      exact ⟨hji, by omega⟩) k hk, h.kids_count _ i k hi2 (Or.inr hi) hk rfl]
    have nd : (belF u i).Nodup := (bel_sorted u i).imp fun h => by omega
    rw [nd.count]
    by_cases c : i ∈ ancs u k
    · rw [if_pos (Or.inr c), if_pos (mem_bel.2 ⟨hk, c⟩)]
    · rw [if_neg (by simp [hi1, c]), if_neg fun hc => c (mem_bel.1 hc).2]
  · rw [List.count_eq_zero_of_not_mem fun hc => hk (mem_bel.1 hc).1, List.count_eq_zero_of_not_mem fun hc => hk (beh_is f _ (fun j hj => kids_is hi2 hj) k hc)]
theorem RkF.bel_sort {u : List Int} {r : Int → Nat} (h : RkF u r) {i : Int} (hi : isF u i = true) {f : Nat} (hf : u.length ≤ r i + 1 + f) : sortI (behF u f (kidsF u i)) = belF u i := sortI_perm (h.bel_perm hi hf) (bel_sorted u i)
end Go.Proofs.Ytkcahnefekkfaaa.F13W

namespace Go.Proofs.Ytkcahnefekkfaaa.F13W
open Go Go.Proofs Go.Proofs.YtkcahnefekkfaaaAbs
variable [Base]
set_option maxRecDepth 100000
/-! ### What is done to a forest -/
theorem isF_no {u : List Int} {k : Int} (h : upAt u k = -2) : isF u k = false := by
  cases e : isF u k
  · rfl
  · exact absurd h (isF_iff.1 e).2.2
def setL (u ks : List Int) (v : Int) : List Int := ks.foldl (fun u k => u.set k.toNat v) u
theorem setL_len (v : Int) : ∀ (ks u : List Int), (setL u ks v).length = u.length
  | [], u => rfl
  | k :: ks, u => by
    have := setL_len v ks (u.set k.toNat v)
    rw [List.length_set] at this
    exact this
theorem upAt_set {u : List Int} {i x v : Int} (h0 : 0 ≤ i) (h1 : i < u.length) (x0 : 0 ≤ x) : upAt (u.set i.toNat v) x = if x = i then v else upAt u x := by
  unfold upAt
  rw [List.getD_eq_getElem?_getD, List.getElem?_set, List.getD_eq_getElem?_getD]
  by_cases c : x = i
  · subst c
    rw [if_pos rfl, if_pos rfl, if_pos (by omega)]; rfl
  · rw [if_neg c, if_neg (by omega)]
theorem upAt_setL (v : Int) {x : Int} (x0 : 0 ≤ x) : ∀ (ks u : List Int), (∀ k, k ∈ ks → 0 ≤ k ∧ k < u.length) → upAt (setL u ks v) x = if x ∈ ks then v else upAt u x
  | [], u, h => rfl
  | k :: ks, u, h => by
    obtain ⟨h1, h2⟩ := h k List.mem_cons_self
    have := upAt_setL v x0 ks (u.set k.toNat v) fun j hj => by rw [List.length_set]; exact h j (List.mem_cons_of_mem _ hj)
    rw [show setL u (k :: ks) v = setL (u.set k.toNat v) ks v from rfl, this, upAt_set h1 h2 x0]
    by_cases c : x ∈ ks
    · simp [c]
    · by_cases c2 : x = k <;> simp [c, c2]
theorem ext_upAt {u w : List Int} (hl : u.length = w.length) (h : ∀ x : Int, 0 ≤ x → x < u.length → upAt u x = upAt w x) : u = w := by
  refine List.ext_getElem hl fun i h1 h2 => ?_
  have := h i (by omega) (by omega)
  rwa [upAt_nat h1, upAt_nat h2] at this
def addF (u : List Int) (i k : Int) : List Int := u.set i.toNat k
def dropF (u : List Int) (i : Int) : List Int := (setL u (kidsF u i) (upAt u i)).set i.toNat (-2)
def moveF (u : List Int) (i k : Int) : List Int := ((setL u (kidsF u i) k).set k.toNat (upAt u i)).set i.toNat (-2)
def pruneF (u : List Int) (i : Int) : List Int := setL u (belF u i) (-2)
@[simp] theorem addF_len (u : List Int) (i k : Int) : (addF u i k).length = u.length := by simp [addF]
@[simp] theorem dropF_len (u : List Int) (i : Int) : (dropF u i).length = u.length := by simp [dropF, setL_len]
@[simp] theorem moveF_len (u : List Int) (i k : Int) : (moveF u i k).length = u.length := by simp [moveF, setL_len]
@[simp] theorem pruneF_len (u : List Int) (i : Int) : (pruneF u i).length = u.length := by simp [pruneF, setL_len]
theorem kids_in {u : List Int} {i : Int} : ∀ k, k ∈ kidsF u i → 0 ≤ k ∧ k < u.length := fun k h => ⟨(mem_kids.1 h).1, (mem_kids.1 h).2.1⟩
theorem bel_in {u : List Int} {i : Int} : ∀ k, k ∈ belF u i → 0 ≤ k ∧ k < u.length := fun k h => ⟨(isF_iff.1 (mem_bel.1 h).1).1, (isF_iff.1 (mem_bel.1 h).1).2.1⟩
section
variable {u : List Int} {r : Int → Nat} {i k x : Int}
theorem upAt_add (h0 : 0 ≤ i) (h1 : i < u.length) (x0 : 0 ≤ x) : upAt (addF u i k) x = if x = i then k else upAt u x := upAt_set h0 h1 x0
theorem upAt_drop (h0 : 0 ≤ i) (h1 : i < u.length) (x0 : 0 ≤ x) (x1 : x < u.length) : upAt (dropF u i) x = if x = i then -2 else if upAt u x = i then upAt u i else upAt u x := by
  unfold dropF
  rw [upAt_set h0 (by rw [setL_len]; exact h1) x0, upAt_setL _ x0 _ _ kids_in]
  by_cases c : upAt u x = i
  · rw [if_pos (mem_kids.2 ⟨x0, x1, c⟩), if_pos c]
  · rw [if_neg (fun h => c (mem_kids.1 h).2.2), if_neg c]
theorem upAt_move (h0 : 0 ≤ i) (h1 : i < u.length) (k0 : 0 ≤ k) (k1 : k < u.length) (x0 : 0 ≤ x) (x1 : x < u.length) : upAt (moveF u i k) x = if x = i then -2 else if x = k then upAt u i else if upAt u x = i then k else upAt u x := by
  unfold moveF
  rw [upAt_set h0 (by rw [List.length_set, setL_len]; exact h1) x0, upAt_set k0 (by rw [setL_len]; exact k1) x0, upAt_setL _ x0 _ _ kids_in]
  by_cases c : upAt u x = i
  · rw [if_pos (mem_kids.2 ⟨x0, x1, c⟩), if_pos c]
  · rw [if_neg (fun h => c (mem_kids.1 h).2.2), if_neg c]
theorem upAt_prune (x0 : 0 ≤ x) : upAt (pruneF u i) x = if isF u x = true ∧ i ∈ ancs u x then -2 else upAt u x := by
  unfold pruneF
  rw [upAt_setL _ x0 _ _ bel_in]
  by_cases c : x ∈ belF u i
  · rw [if_pos c, if_pos (mem_bel.1 c)]
  · rw [if_neg c, if_neg (fun h => c (mem_bel.2 h))]
theorem isF_add (h0 : 0 ≤ i) (h1 : i < u.length) (hk : k ≠ -2) : isF (addF u i k) x = true ↔ x = i ∨ isF u x = true := by
  rw [isF_iff, isF_iff, addF_len]
  constructor
  · rintro ⟨a, b, c⟩
    rw [upAt_add h0 h1 a] at c
    by_cases e : x = i
    · exact Or.inl e
    · rw [if_neg e] at c; exact Or.inr ⟨a, b, c⟩
  · rintro (rfl | ⟨a, b, c⟩)
    · exact ⟨h0, h1, by rw [upAt_add h0 h1 h0, if_pos rfl]; exact hk⟩
    · refine ⟨a, b, ?_⟩
      rw [upAt_add h0 h1 a]
      split
      · exact hk
      · exact c
theorem RkF.add (h : RkF u r) (h0 : 0 ≤ i) (h1 : i < u.length) (he : upAt u i = -2) (hk : k = -1 ∨ isF u k = true) : RkF (addF u i k) (fun x => if x = i then (if k = -1 then 0 else r k + 1) else r x) := by
  have hk2 : k ≠ -2 := by
    rintro rfl
    rcases hk with hk | hk
    · omega
    · rw [ne_two] at hk; cases hk
  have hif : isF u i = false := isF_no he
  refine ⟨fun x hx hr => ?_, fun x hx hr => ?_⟩
  · have x0 := (isF_iff.1 hx).1
    rw [upAt_add h0 h1 x0] at hr
    by_cases c : x = i
    · rw [if_pos c] at hr; simp [c, hr]
    · rw [if_neg c] at hr
      simp only [if_neg c]
      exact h.root x ((isF_add h0 h1 hk2).1 hx |>.resolve_left c) hr
  · have x0 := (isF_iff.1 hx).1
    rw [upAt_add h0 h1 x0] at hr ⊢
    rw [isF_add h0 h1 hk2]
    by_cases c : x = i
    · rw [if_pos c] at hr
      have hk' := hk.resolve_left hr
      have nki : k ≠ i := fun e => by rw [e, hif] at hk'; cases hk'
      simp [c, hr, hk', nki]
    · have hxu := (isF_add h0 h1 hk2).1 hx |>.resolve_left c
      rw [if_neg c] at hr
      obtain ⟨s1, s2⟩ := h.step x hxu hr
      have nki : upAt u x ≠ i := fun e => by rw [e, hif] at s1; cases s1
      simp [c, s1, s2, nki]
theorem add_drop (h : RkF u r) (h0 : 0 ≤ i) (h1 : i < u.length) (he : upAt u i = -2) (hki : k ≠ i) : dropF (addF u i k) i = u := by
  refine ext_upAt (by simp) fun x x0 x1 => ?_
  rw [dropF_len, addF_len] at x1
  rw [upAt_drop h0 (by simpa using h1) x0 (by simpa using x1), upAt_add h0 h1 x0, upAt_add h0 h1 h0, if_pos rfl]
  by_cases c : x = i
  · rw [if_pos c, c, he]
  · rw [if_neg c, if_neg c, if_neg]
    intro e
    by_cases c2 : upAt u x = -1
    · omega
    · have hx : isF u x = true := isF_iff.2 ⟨x0, x1, by rw [e]; rintro rfl; omega⟩
      have := (h.step x hx c2).1
      rw [e] at this
      exact (isF_iff.1 this).2.2 he
theorem isF_drop (hi : isF u i = true) : isF (dropF u i) x = true ↔ isF u x = true ∧ x ≠ i := by
  obtain ⟨h0, h1, h2⟩ := isF_iff.1 hi
  rw [isF_iff, isF_iff, dropF_len]
  constructor
  · rintro ⟨a, b, c⟩
    rw [upAt_drop h0 h1 a b] at c
    by_cases e : x = i
    · rw [if_pos e] at c; exact absurd rfl c
    · rw [if_neg e] at c
      refine ⟨⟨a, b, ?_⟩, e⟩
      intro h3
      rw [if_neg (by omega)] at c
      exact c h3
  · rintro ⟨⟨a, b, c⟩, e⟩
    refine ⟨a, b, ?_⟩
    rw [upAt_drop h0 h1 a b, if_neg e]
    split
    · exact h2
    · exact c
theorem RkF.self (h : RkF u r) (hi : isF u i = true) : i ∉ ancs u i := fun hc => by have := (h.ancs_lt _ i hi rfl _ hc).2; omega
theorem RkF.drop (h : RkF u r) (hi : isF u i = true) : RkF (dropF u i) (fun x => if i ∈ ancs u x then r x - 1 else r x) := by
  obtain ⟨h0, h1, h2⟩ := isF_iff.1 hi
  refine ⟨fun x hx hr => ?_, fun x hx hr => ?_⟩
  · obtain ⟨hxu, hxi⟩ := (isF_drop hi).1 hx
    obtain ⟨x0, x1, _⟩ := isF_iff.1 hxu
    rw [upAt_drop h0 h1 x0 x1, if_neg hxi] at hr
    by_cases c : upAt u x = i
    · rw [if_pos c] at hr
      have hr' : upAt u x ≠ -1 := by omega
      have := (h.step x hxu hr').2
      have e1 := h.root i hi hr
      have : i ∈ ancs u x := by rw [h.ancs_step hxu hr', c]; exact List.mem_cons_self
      simp only [if_pos this]
      rw [c] at *
      omega
    · rw [if_neg c] at hr
      rw [h.ancs_root hxu hr, if_neg (by simp)]
      exact h.root x hxu hr
  · obtain ⟨hxu, hxi⟩ := (isF_drop hi).1 hx
    obtain ⟨x0, x1, _⟩ := isF_iff.1 hxu
    rw [upAt_drop h0 h1 x0 x1, if_neg hxi] at hr ⊢
    by_cases c : upAt u x = i
    · rw [if_pos c] at hr ⊢
      have hr' : upAt u x ≠ -1 := by omega
      have s2 := (h.step x hxu hr').2
      obtain ⟨t1, t2⟩ := h.step i hi hr
      have hi' : i ∈ ancs u x := by rw [h.ancs_step hxu hr', c]; exact List.mem_cons_self
      have hn : i ∉ ancs u (upAt u i) := fun hc => by have := (h.ancs_lt _ _ t1 rfl _ hc).2; omega
      have hne : upAt u i ≠ i := fun e => by rw [e] at t2; omega
      refine ⟨(isF_drop hi).2 ⟨t1, hne⟩, ?_⟩
      simp only [if_pos hi', if_neg hn]
      rw [c] at s2
      omega
    · rw [if_neg c] at hr ⊢
      obtain ⟨s1, s2⟩ := h.step x hxu hr
      refine ⟨(isF_drop hi).2 ⟨s1, c⟩, ?_⟩
      have e : i ∈ ancs u x ↔ i ∈ ancs u (upAt u x) := by
        rw [h.ancs_step hxu hr, List.mem_cons]
        constructor
        · rintro (e | e)
          · exact absurd e.symm c
          · exact e
        · exact Or.inr
      by_cases c2 : i ∈ ancs u (upAt u x)
      · have := (h.ancs_lt _ _ s1 rfl _ c2).2
        simp only [if_pos (e.2 c2), if_pos c2]
        omega
      · simp only [if_neg (fun hc => c2 (e.1 hc)), if_neg c2]
        exact s2
theorem isF_move (hi : isF u i = true) (k0 : 0 ≤ k) (k1 : k < u.length) (hk : upAt u k = -2) : isF (moveF u i k) x = true ↔ x = k ∨ isF u x = true ∧ x ≠ i := by
  obtain ⟨h0, h1, h2⟩ := isF_iff.1 hi
  have nki : k ≠ i := fun e => by rw [e] at hk; exact h2 hk
  rw [isF_iff, isF_iff, moveF_len]
  constructor
  · rintro ⟨a, b, c⟩
    rw [upAt_move h0 h1 k0 k1 a b] at c
    by_cases e : x = i
    · rw [if_pos e] at c; exact absurd rfl c
    · rw [if_neg e] at c
      by_cases e2 : x = k
      · exact Or.inl e2
      · rw [if_neg e2] at c
        refine Or.inr ⟨⟨a, b, ?_⟩, e⟩
        intro h3
        rw [if_neg (by omega)] at c
        exact c h3
  · rintro (rfl | ⟨⟨a, b, c⟩, e⟩)
    · exact ⟨k0, k1, by rw [upAt_move h0 h1 k0 k1 k0 k1, if_neg nki, if_pos rfl]; exact h2⟩
    · refine ⟨a, b, ?_⟩
      rw [upAt_move h0 h1 k0 k1 a b, if_neg e]
      split
      · exact h2
      · split
        · omega
        · exact c
theorem RkF.move (h : RkF u r) (hi : isF u i = true) (k0 : 0 ≤ k) (k1 : k < u.length) (hk : upAt u k = -2) : RkF (moveF u i k) (fun x => if x = k then r i else r x) := by
  obtain ⟨h0, h1, h2⟩ := isF_iff.1 hi
  have nki : k ≠ i := fun e => by rw [e] at hk; exact h2 hk
  have nk : isF u k = false := isF_no hk
  have hm := fun x => isF_move (x := x) hi k0 k1 hk
  refine ⟨fun x hx hr => ?_, fun x hx hr => ?_⟩
  · obtain ⟨x0, x1, _⟩ := isF_iff.1 hx
    rw [moveF_len] at x1
    rw [upAt_move h0 h1 k0 k1 x0 x1] at hr
    rcases (hm x).1 hx with rfl | ⟨hxu, hxi⟩
    · rw [if_neg nki, if_pos rfl] at hr
      simp only [if_pos]
      exact h.root i hi hr
    · have hxk : x ≠ k := fun e => by rw [e, nk] at hxu; cases hxu
      rw [if_neg hxi, if_neg hxk] at hr
      simp only [if_neg hxk]
      by_cases c : upAt u x = i
      · rw [if_pos c] at hr; omega
      · rw [if_neg c] at hr; exact h.root x hxu hr
  · obtain ⟨x0, x1, _⟩ := isF_iff.1 hx
    rw [moveF_len] at x1
    rw [upAt_move h0 h1 k0 k1 x0 x1] at hr ⊢
    rcases (hm x).1 hx with rfl | ⟨hxu, hxi⟩
    · rw [if_neg nki, if_pos rfl] at hr ⊢
      obtain ⟨s1, s2⟩ := h.step i hi hr
      have n1 : upAt u i ≠ i := fun e => by rw [e] at s2; omega
      have n2 : upAt u i ≠ x := fun e => by rw [e, nk] at s1; cases s1
      refine ⟨(hm _).2 (Or.inr ⟨s1, n1⟩), ?_⟩
      simp only [if_neg n2, if_pos]
      exact s2
    · have hxk : x ≠ k := fun e => by rw [e, nk] at hxu; cases hxu
      rw [if_neg hxi, if_neg hxk] at hr ⊢
      simp only [if_neg hxk]
      by_cases c : upAt u x = i
      · rw [if_pos c] at hr ⊢
        have hr' : upAt u x ≠ -1 := by omega
        have := (h.step x hxu hr').2
        rw [c] at this
        refine ⟨(hm _).2 (Or.inl rfl), ?_⟩
        simp only [if_pos]
        exact this
      · rw [if_neg c] at hr ⊢
        obtain ⟨s1, s2⟩ := h.step x hxu hr
        have n2 : upAt u x ≠ k := fun e => by rw [e, nk] at s1; cases s1
        refine ⟨(hm _).2 (Or.inr ⟨s1, c⟩), ?_⟩
        simp only [if_neg n2]
        exact s2
theorem move_move (h : RkF u r) (hi : isF u i = true) (k0 : 0 ≤ k) (k1 : k < u.length) (hk : upAt u k = -2) : moveF (moveF u i k) k i = u := by
  obtain ⟨h0, h1, h2⟩ := isF_iff.1 hi
  have nki : k ≠ i := fun e => by rw [e] at hk; exact h2 hk
  have nk : isF u k = false := isF_no hk
  have self : upAt u i ≠ i := fun e => by have := (h.step i hi (by omega)).2; rw [e] at this; omega
  refine ext_upAt (by simp) fun x x0 x1 => ?_
  rw [moveF_len, moveF_len] at x1
  rw [upAt_move k0 (by simpa using k1) h0 (by simpa using h1) x0 (by simpa using x1), upAt_move h0 h1 k0 k1 k0 k1, upAt_move h0 h1 k0 k1 x0 x1, if_neg nki, if_pos rfl]
  by_cases c : x = k
  · rw [if_pos c, c, hk]
  rw [if_neg c]
  by_cases c1 : x = i
  · rw [if_pos c1, c1]
  rw [if_neg c1, if_neg c1, if_neg c]
  by_cases c2 : upAt u x = i
  · rw [if_pos c2, if_pos rfl, c2]
  rw [if_neg c2, if_neg]
  intro e
  have hx : isF u x = true := isF_iff.2 ⟨x0, x1, by rw [e]; omega⟩
  have := (h.step x hx (by omega)).1
  rw [e, nk] at this; cases this
theorem move_ancs (h : RkF u r) (hi : isF u i = true) (k0 : 0 ≤ k) (k1 : k < u.length) (hk : upAt u k = -2) : ∀ (d : Nat) (x : Int), isF u x = true → x ≠ i → r x = d → (k ∈ ancs (moveF u i k) x ↔ i ∈ ancs u x)
  | d, x, hxu, hxi, hd => by
    obtain ⟨h0, h1, h2⟩ := isF_iff.1 hi
    obtain ⟨x0, x1, x2⟩ := isF_iff.1 hxu
    have nk : isF u k = false := isF_no hk
    have hxk : x ≠ k := fun e => by rw [e, nk] at hxu; cases hxu
    have hm := h.move hi k0 k1 hk
    have hx : isF (moveF u i k) x = true := (isF_move hi k0 k1 hk).2 (Or.inr ⟨hxu, hxi⟩)
    have e := upAt_move h0 h1 k0 k1 x0 x1
    rw [if_neg hxi, if_neg hxk] at e
    by_cases c : upAt u x = i
    · rw [if_pos c] at e
      rw [hm.ancs_step hx (by omega), h.ancs_step hxu (by omega), e, c]
      simp
    · rw [if_neg c] at e
      by_cases hr : upAt u x = -1
      · rw [hm.ancs_root hx (by omega), h.ancs_root hxu hr]
        simp
      · obtain ⟨s1, s2⟩ := h.step x hxu hr
        have n2 : upAt u x ≠ k := fun e => by rw [e, nk] at s1; cases s1
        rw [hm.ancs_step hx (by omega), h.ancs_step hxu hr, e, List.mem_cons, List.mem_cons]
        cases d with
        | zero => omega
        | succ d =>
          rw [move_ancs h hi k0 k1 hk d _ s1 c (by omega)]
          simp [fun e => n2 (Eq.symm e), fun e => c (Eq.symm e), Ne.symm c, Ne.symm n2]
theorem move_bel (h : RkF u r) (hi : isF u i = true) (k0 : 0 ≤ k) (k1 : k < u.length) (hk : upAt u k = -2) : belF (moveF u i k) k = belF u i := by
  have nk : isF u k = false := isF_no hk
  have hm := h.move hi k0 k1 hk
  unfold belF
  rw [moveF_len]
  congr 1
  refine List.filter_congr fun x hx => ?_
  have hmx : isF (moveF u i k) x = true ↔ (x : Int) = k ∨ isF u x = true ∧ (x : Int) ≠ i := isF_move hi k0 k1 hk
  rw [Bool.eq_iff_iff]
  simp only [Bool.and_eq_true, decide_eq_true_eq]
  constructor
  · rintro ⟨a, b⟩
    rcases hmx.1 a with e | ⟨h1, h2⟩
    · rw [e] at b a; exact absurd b (hm.self a)
    · exact ⟨h1, (move_ancs h hi k0 k1 hk _ _ h1 h2 rfl).1 b⟩
  · rintro ⟨a, b⟩
    have h2 : (x : Int) ≠ i := fun e => by rw [e] at b a; exact h.self a b
    exact ⟨hmx.2 (Or.inr ⟨a, h2⟩), (move_ancs h hi k0 k1 hk _ _ a h2 rfl).2 b⟩
theorem isF_prune : isF (pruneF u i) x = true ↔ isF u x = true ∧ i ∉ ancs u x := by
  rw [isF_iff, pruneF_len]
  constructor
  · rintro ⟨a, b, c⟩
    rw [upAt_prune a] at c
    split at c
    · exact absurd rfl c
    · rename_i hc
      have hx := isF_iff.2 ⟨a, b, c⟩
      exact ⟨hx, fun h => hc ⟨hx, h⟩⟩
  · rintro ⟨a, b⟩
    obtain ⟨a1, a2, a3⟩ := isF_iff.1 a
    exact ⟨a1, a2, by rw [upAt_prune a1, if_neg (fun h => b h.2)]; exact a3⟩
theorem RkF.prune (h : RkF u r) : RkF (pruneF u i) r := by
  refine ⟨fun x hx hr => ?_, fun x hx hr => ?_⟩
  · obtain ⟨a, b⟩ := isF_prune.1 hx
    rw [upAt_prune (isF_iff.1 a).1, if_neg (fun h => b h.2)] at hr
    exact h.root x a hr
  · obtain ⟨a, b⟩ := isF_prune.1 hx
    rw [upAt_prune (isF_iff.1 a).1, if_neg (fun h => b h.2)] at hr ⊢
    obtain ⟨s1, s2⟩ := h.step x a hr
    refine ⟨isF_prune.2 ⟨s1, fun hc => b ?_⟩, s2⟩
    rw [h.ancs_step a hr]
    exact List.mem_cons_of_mem _ hc
theorem prune_kids (h : RkF u r) (hi : isF u i = true) : kidsF (pruneF u i) i = [] := by
  refine List.eq_nil_iff_forall_not_mem.2 fun x hx => ?_
  obtain ⟨h0, h1, h2⟩ := isF_iff.1 hi
  obtain ⟨a, b, c⟩ := mem_kids.1 hx
  rw [pruneF_len] at b
  rw [upAt_prune a] at c
  split at c
  · omega
  · rename_i hc
    have hxu : isF u x = true := isF_iff.2 ⟨a, b, by omega⟩
    refine hc ⟨hxu, ?_⟩
    rw [h.ancs_step hxu (by omega), c]
    exact List.mem_cons_self
end
/-! ### All, each ahead of what came of it -/
def ordF (u : List Int) : List Int := behF u u.length (kidsF u (-1))
theorem roots_is {u : List Int} : ∀ j, j ∈ kidsF u (-1) → isF u j = true := fun j hj => kids_is (by omega) hj
theorem RkF.ord_perm {u : List Int} {r : Int → Nat} (h : RkF u r) : (ordF u).Perm (((List.range u.length).filter fun k => isF u (k : Nat)).map Int.ofNat) := by
  refine List.perm_iff_count.2 fun k => ?_
  have nd : (((List.range u.length).filter fun k => isF u (k : Nat)).map Int.ofNat).Nodup := by
    refine List.Pairwise.map (R := fun a b => a ≠ b) _ (fun a b h e => h (Int.ofNat.inj e)) ?_
    exact List.Pairwise.filter _ List.nodup_range
  rw [nd.count]
  by_cases hk : isF u k = true
  · unfold ordF
    rw [h.beh_count _ _ (fun j hj => ⟨roots_is j hj, by omega⟩) k hk, h.kids_count _ (-1) k (by omega) (Or.inl rfl) hk rfl, if_pos (Or.inl rfl), if_pos]
    obtain ⟨a, b, c⟩ := isF_iff.1 hk
    have e : ((k.toNat : Nat) : Int) = k := by omega
    simp only [List.mem_map, List.mem_filter, List.mem_range]
    exact ⟨k.toNat, ⟨by omega, by rw [e]; exact hk⟩, e⟩
  · unfold ordF
    rw [List.count_eq_zero_of_not_mem (fun hc => hk (beh_is _ _ roots_is k hc)), if_neg]
    intro hc
    simp only [List.mem_map, List.mem_filter, List.mem_range] at hc
    obtain ⟨a, ⟨_, h2⟩, rfl⟩ := hc
    exact hk h2
/-- Each parent is told ahead. -/
def aheadF (u : List Int) : List Int → List Int → Prop
  | _, [] => True
  | S, x :: l => (upAt u x = -1 ∨ upAt u x ∈ S) ∧ aheadF u (x :: S) l
theorem ahead_mono {u : List Int} : ∀ {l S S' : List Int}, (∀ x, x ∈ S → x ∈ S') → aheadF u S l → aheadF u S' l
  | [], S, S', h, _ => trivial
  | x :: l, S, S', h, ⟨a, b⟩ => ⟨a.imp id (h _), ahead_mono (fun y hy => by
    rcases List.mem_cons.1 hy with rfl | hy
    · exact List.mem_cons_self
    · exact List.mem_cons_of_mem _ (h y hy)) b⟩
theorem ahead_append {u : List Int} : ∀ {l l' S : List Int}, aheadF u S l → aheadF u S l' → aheadF u S (l ++ l')
  | [], l', S, _, h => h
  | x :: l, l', S, ⟨a, b⟩, h => ⟨a, ahead_append b (ahead_mono (fun y hy => List.mem_cons_of_mem _ hy) h)⟩
theorem beh_ahead {u : List Int} : ∀ (f : Nat) (l S : List Int), (∀ j, j ∈ l → upAt u j = -1 ∨ upAt u j ∈ S) → aheadF u S (behF u f l)
  | 0, l, S, h => trivial
  | f + 1, [], S, h => trivial
  | f + 1, i :: l, S, h => by
    have e : behF u (f + 1) (i :: l) = (i :: behF u f (kidsF u i)) ++ behF u (f + 1) l := by
      simp only [behF, List.flatMap_cons]
    rw [e]
    refine ahead_append ⟨h i List.mem_cons_self, beh_ahead f _ _ fun j hj => Or.inr ?_⟩ (beh_ahead (f + 1) l S fun j hj => h j (List.mem_cons_of_mem _ hj))
    rw [(mem_kids.1 hj).2.2]
    exact List.mem_cons_self
theorem ord_ahead (u : List Int) : aheadF u [] (ordF u) := beh_ahead _ _ _ fun j hj => Or.inl (mem_kids.1 hj).2.2
end Go.Proofs.Ytkcahnefekkfaaa.F13W

namespace Go.Proofs.Ytkcahnefekkfaaa.F13W
open Go Go.Proofs Go.Proofs.YtkcahnefekkfaaaAbs
variable [Base]
set_option maxHeartbeats 4000000
set_option maxRecDepth 100000
/-! ### The forest's functions that read alone -/
abbrev fv (va : Value) : Value := .agg #[va]
theorem take_snoc {α : Type} (zs : List α) (i : Nat) (h : i < zs.length) : zs.take (i + 1) = zs.take i ++ [zs[i]] := by rw [List.take_add_one, List.getElem?_eq_getElem h]; rfl
theorem forest_is (va : Value) (u : List Int) (i : Int) (g : AMem) (n : Nat) (hl : u.length ≤ 100000) (ha : rdI g va u) : FnC Try.prog f_forest_Forest_is [fv va, .int .i64 i] g n (fun _ => False) (.bool (isF u i)) g n := by
  refine fnC_of_rwp t_forest_Forest_is hm rfl fun hdom => ?_
  obtain ⟨a, ea, hva⟩ := ha.form
  have k1 := (Kept.refl hdom).new (.row [va] true)
  by_cases c1 : 0 ≤ i
  case neg =>
    rw [show isF u i = false by simp [isF, c1]]
    simp (maxSteps := 1000000) (disch := first | assumption | omega | rfl | decide | simp only [fitsR, Bool.and_self]) [↓rules, rules, ↓rulesDp, rulesDq, lit_u64, Int.ofNat_inj, stops, rc_forest_Forest_is, q_int, q_bool, q_S_int, q_forest_Forest, hva, c1]
    exact done_q hdom (hva ▸ k1) rfl rfl
  by_cases c2 : i < (u.length : Int)
  case neg =>
    rw [show isF u i = false by simp [isF, c2]]
    simp (maxSteps := 1000000) (disch := first | assumption | omega | rfl | decide | simp only [fitsR, Bool.and_self]) [↓rules, rules, ↓rulesDp, rulesDq, lit_u64, Int.ofNat_inj, stops, rc_forest_Forest_is, q_int, q_bool, q_S_int, q_forest_Forest, hva, c1, c2]
    exact done_q hdom (hva ▸ k1) rfl rfl
  obtain ⟨k, rfl⟩ : ∃ k : Nat, i = k := ⟨i.toNat, by omega⟩
  have hk : k < u.length := by omega
  obtain ⟨b1, o1, h1, _, h2⟩ := ha.one hk
  have e1 := h2 _ (k1.ext hdom) Try.prog _ ta_int
  rw [h1] at e1 k1
  simp (maxSteps := 1000000) (disch := first | assumption | omega | rfl | decide | simp only [fitsR, Bool.and_self]) [↓rules, rules, ↓rulesDp, rulesDq, lit_u64, Int.ofNat_inj, stops, rc_forest_Forest_is, q_int, q_bool, q_S_int, q_forest_Forest, h1, c1, c2, e1]
  refine done_q hdom k1 rfl ?_
  rw [show isF u (k : Int) = !decide (u[k] = -2) by simp [isF, upAt_nat hk, hk]]
  rfl
theorem forest_Good (va : Value) (u : List Int) (g : AMem) (n : Nat) (hl : u.length ≤ 100000) (ha : rdI g va u) : FnC Try.prog f_forest_Good [fv va] g n (fun _ => False) (.bool (goodF u)) g n := by
  refine fnC_of_rwp t_forest_Good hm rfl fun hdom => ?_
  obtain ⟨a, ea, hva⟩ := ha.form
  have k1 := (Kept.refl hdom).new (.row [va] true)
  have ha1 := ha.ext (k1.ext hdom)
  unfold goodF
  by_cases c1 : (96 : Int) < u.length
  case pos =>
    rw [decide_eq_false (show ¬ u.length ≤ 96 by omega), Bool.false_and]
    simp (maxSteps := 1000000) (disch := first | assumption | omega | rfl | decide | simp only [fitsR, Bool.and_self]) [↓rules, rules, ↓rulesDp, rulesDq, lit_u64, Int.ofNat_inj, stops, rc_forest_Good, q_int, q_bool, q_S_int, q_forest_Forest, hva, c1]
    exact done_q hdom (hva ▸ k1) rfl rfl
  rw [decide_eq_true (show u.length ≤ 96 by omega), Bool.true_and]
  simp (maxSteps := 1000000) (disch := first | assumption | omega | rfl | decide | simp only [fitsR, Bool.and_self]) [↓rules, rules, ↓rulesDp, rulesDq, lit_u64, Int.ofNat_inj, stops, rc_forest_Good, q_int, q_bool, q_S_int, q_forest_Forest, hva, c1]
  rw [← hva]
  have hG0 : gset g n (some (.row [va] true)) n = some (.row [va] true) := by simp [gset]
  generalize hG : gset g n (some (.row [va] true)) = G at *
  refine rwp_loop (fun j l g' n' => ∃ i, j = u.length - i ∧ i ≤ u.length ∧ g' = G ∧ n' = n + 1 ∧ okUp u = (u.drop i).all (upOk u) ∧ l = [(1, .pointer (some ⟨n, 0, none⟩)), (13, va), (14, .int .i64 u.length), (15, .int .i64 i)]) ?_ (k := u.length) ?_
  · rintro j l g' n' ⟨i, rfl, hi, rfl, rfl, he, rfl⟩
    by_cases hlt : (i : Int) < (u.length : Int)
    case neg =>
      have : i = u.length := by omega
      subst this
      rw [List.drop_length] at he
      simp (maxSteps := 1000000) (disch := first | assumption | omega | rfl | decide | simp only [fitsR, Bool.and_self]) [↓rules, rules, ↓rulesDp, rulesDq, lit_u64, Int.ofNat_inj, stops, rc_forest_Goodl0, q_int, q_bool, q_S_int, q_forest_Forest, hlt, hG0, hva]
      have hw : okUp u = true := he
      rw [hw, Bool.true_and]
      refine rwp_loop (fun j l g2 n2 => ∃ i, j = u.length - i ∧ i ≤ u.length ∧ g2 = g' ∧ n2 = n + 1 ∧ (List.range i).all (fun i => walkF u (u.length + 1) i) = true ∧ l = [(1, .pointer (some ⟨n, 0, none⟩)), (34, .int .i64 u.length), (35, .int .i64 i)]) ?_ (k := u.length) ?_
      · rintro j l g2 n2 ⟨i, rfl, hi, rfl, rfl, hr, rfl⟩
        by_cases hlt : (i : Int) < (u.length : Int)
        case neg =>
          have : i = u.length := by omega
          subst this
          simp (maxSteps := 1000000) (disch := first | assumption | omega | rfl | decide | simp only [fitsR, Bool.and_self]) [↓rules, rules, ↓rulesDp, rulesDq, lit_u64, Int.ofNat_inj, stops, rc_forest_Goodl2, q_int, q_bool, q_S_int, q_forest_Forest, hlt]
          refine done_q hdom k1 rfl ?_
          rw [hr]; rfl
        simp (maxSteps := 1000000) (disch := first | assumption | omega | rfl | decide | simp only [fitsR, Bool.and_self]) [↓rules, rules, ↓rulesDp, rulesDq, lit_u64, Int.ofNat_inj, stops, rc_forest_Goodl2, q_int, q_bool, q_S_int, q_forest_Forest, hlt]
        refine rwp_loop (fun j l g3 n3 => ∃ (s : Nat) (a : Int), j = u.length + 2 - s ∧ s ≤ u.length + 1 ∧ g3 = g2 ∧ n3 = n + 1 ∧ walkF u (u.length + 1) i = walkF u (u.length + 1 - s) a ∧ l = [(1, .pointer (some ⟨n, 0, none⟩)), (6, .int .i64 s), (7, .int .i64 a), (34, .int .i64 u.length), (35, .int .i64 i)]) ?_ (k := u.length + 2) ?_
        · rintro j l g3 n3 ⟨s, a, rfl, hs, rfl, rfl, hwk, rfl⟩
          simp (maxSteps := 1000000) (disch := first | assumption | omega | rfl | decide | simp only [fitsR, Bool.and_self]) [↓rules, rules, ↓rulesDp, rulesDq, lit_u64, Int.ofNat_inj, stops, rc_forest_Goodl1, q_int, q_bool, q_S_int, q_forest_Forest, hG0]
          refine rcall_quiet rfl (forest_is va u _ _ _ hl ha1) ?_
          cases c4 : isF u a
          · have w1 : IntKind.i64.wrap ((i : Int) + 1) = ((i + 1 : Nat) : Int) := by rw [wrap_i64 (by omega) (by omega)]; omega
            simp (maxSteps := 1000000) (disch := first | assumption | omega | rfl | decide | simp only [fitsR, Bool.and_self]) [↓rules, rules, ↓rulesDp, rulesDq, lit_u64, Int.ofNat_inj, stops, q_int, q_bool, q_S_int, q_forest_Forest, w1]
            have hwi : walkF u (u.length + 1) i = true := by
              rw [hwk]
              cases u.length + 1 - s <;> simp [walkF, c4]
            exact ⟨u.length - (i + 1), by omega, i + 1, rfl, by omega, fun x hx => by
              rcases Nat.lt_or_eq_of_le (Nat.le_of_lt_succ hx) with h | rfl
              · exact List.all_eq_true.1 hr x (List.mem_range.2 h)
              · exact hwi, by omega⟩
          · by_cases c5 : (u.length : Int) < s
            · simp (maxSteps := 1000000) (disch := first | assumption | omega | rfl | decide | simp only [fitsR, Bool.and_self]) [↓rules, rules, ↓rulesDp, rulesDq, lit_u64, Int.ofNat_inj, stops, q_int, q_bool, q_S_int, q_forest_Forest, c5, hG0, hva]
              refine done_q hdom k1 rfl ?_
              have hwi : walkF u (u.length + 1) i = false := by
                rw [hwk, show u.length + 1 - s = 0 by omega]
                simp [walkF, c4]
              have : ((List.range u.length).all fun i => walkF u (u.length + 1) i) = false := by
                rw [List.all_eq_false]
                exact ⟨i, List.mem_range.2 (by omega), by simp [hwi]⟩
              rw [this]; rfl
            · obtain ⟨a0, a1, a2⟩ := isF_iff.1 c4
              obtain ⟨q, rfl⟩ : ∃ q : Nat, a = q := ⟨a.toNat, by omega⟩
              have hq : q < u.length := by omega
              obtain ⟨b1, o1, h1, _, h2⟩ := ha1.one hq
              have e2 := h2 _ (Ext.refl _) Try.prog _ ta_int
              have w1 : IntKind.i64.wrap ((s : Int) + 1) = ((s + 1 : Nat) : Int) := by rw [wrap_i64 (by omega) (by omega)]; omega
              simp (maxSteps := 1000000) (disch := first | assumption | omega | rfl | decide | simp only [fitsR, Bool.and_self]) [↓rules, rules, ↓rulesDp, rulesDq, lit_u64, Int.ofNat_inj, stops, q_int, q_bool, q_S_int, q_forest_Forest, c5, hG0, h1, w1, e2, a1]
              refine ⟨u.length + 2 - (s + 1), by omega, s + 1, rfl, by omega, ?_, by omega⟩
              rw [hwk, show u.length + 1 - s = (u.length + 1 - (s + 1)) + 1 by omega, walkF, c4, upAt_nat hq]; rfl
        · exact ⟨0, i, by simp, by omega, rfl, rfl, rfl, by rfl⟩
      · exact ⟨0, by simp, by simp, rfl, rfl, rfl, by rfl⟩
    have hlt1 : i < u.length := by omega
    obtain ⟨b1, o1, h1, _, h2⟩ := ha1.one hlt1
    have e2 := h2 g' (Ext.refl _) Try.prog _ ta_int
    rw [List.drop_eq_getElem_cons hlt1, List.all_cons] at he
    have w1 : IntKind.i64.wrap ((i : Int) + 1) = ((i + 1 : Nat) : Int) := by rw [wrap_i64 (by omega) (by omega)]; omega
    have done : ∀ b : Bool, upOk u u[i] = true → okUp u = (u.drop (i + 1)).all (upOk u) := fun b h => by rw [he, h, Bool.true_and]
    by_cases c2 : u[i] = -2
    · simp (maxSteps := 1000000) (disch := first | assumption | omega | rfl | decide | simp only [fitsR, Bool.and_self]) [↓rules, rules, ↓rulesDp, rulesDq, lit_u64, Int.ofNat_inj, stops, rc_forest_Goodl0, q_int, q_bool, q_S_int, q_forest_Forest, hlt, hlt1, h1, e2, c2, w1]
      exact ⟨u.length - (i + 1), by omega, i + 1, rfl, by omega, done true (by simp [upOk, c2]), by omega⟩
    by_cases c3 : u[i] = -1
    · simp (maxSteps := 1000000) (disch := first | assumption | omega | rfl | decide | simp only [fitsR, Bool.and_self]) [↓rules, rules, ↓rulesDp, rulesDq, lit_u64, Int.ofNat_inj, stops, rc_forest_Goodl0, q_int, q_bool, q_S_int, q_forest_Forest, hlt, hlt1, h1, e2, c2, c3, w1]
      exact ⟨u.length - (i + 1), by omega, i + 1, rfl, by omega, done true (by simp [upOk, c3]), by omega⟩
    simp (maxSteps := 1000000) (disch := first | assumption | omega | rfl | decide | simp only [fitsR, Bool.and_self]) [↓rules, rules, ↓rulesDp, rulesDq, lit_u64, Int.ofNat_inj, stops, rc_forest_Goodl0, q_int, q_bool, q_S_int, q_forest_Forest, hlt, hlt1, h1, e2, c2, c3, w1, hG0]
    rw [← h1]
    refine rcall_quiet rfl (forest_is va u _ _ _ hl ha1) ?_
    cases c4 : isF u u[i]
    · simp (maxSteps := 1000000) (disch := first | assumption | omega | rfl | decide | simp only [fitsR, Bool.and_self]) [↓rules, rules, ↓rulesDp, rulesDq, lit_u64, Int.ofNat_inj, stops, q_int, q_bool, q_S_int, q_forest_Forest]
      refine done_q hdom k1 rfl ?_
      rw [he, show upOk u u[i] = false by simp [upOk, c2, c3, c4]]; rfl
    · simp (maxSteps := 1000000) (disch := first | assumption | omega | rfl | decide | simp only [fitsR, Bool.and_self]) [↓rules, rules, ↓rulesDp, rulesDq, lit_u64, Int.ofNat_inj, stops, q_int, q_bool, q_S_int, q_forest_Forest, w1, h1]
      exact ⟨u.length - (i + 1), by omega, i + 1, rfl, by omega, done true (by simp [upOk, c4]), by omega⟩
  · exact ⟨0, by simp, by simp, rfl, rfl, by rw [List.drop_zero]; rfl, by rfl⟩
/-- Is it good, and is something there? -/
def mayF (u : List Int) (i : Int) : Bool := goodF u && isF u i
theorem mayF_iff {u : List Int} {i : Int} : mayF u i = true ↔ goodF u = true ∧ isF u i = true := by rw [mayF, Bool.and_eq_true]
/-- How deep; what is not there: -1. -/
def depthS (u : List Int) (i : Int) : Int := if mayF u i = true then (dpt u i : Int) else -1
end Go.Proofs.Ytkcahnefekkfaaa.F13W

namespace Go.Proofs.Ytkcahnefekkfaaa.F13W
open Go Go.Proofs Go.Proofs.YtkcahnefekkfaaaAbs
variable [Base]
set_option maxHeartbeats 4000000
set_option maxRecDepth 100000
abbrev cI (xs : List Int) : List Value := xs.map (Value.int .i64)
/-- A slice of its own row, made from 'n' on; or none. -/
def Gi (n : Nat) (g : AMem) (v : Value) (xs : List Int) : Prop := (v = .slice none 0 0 ∧ xs = []) ∨ ∃ b, n ≤ b ∧ v = .slice (some ⟨b, 0, none⟩) xs.length 1 ∧ g b = some (.row (cI xs) true)
theorem flatI (xs : List Int) : xs.flatMap (fun x => [Value.int .i64 x]) = cI xs := by
  induction xs with
  | nil => rfl
  | cons x xs ih => simp only [List.flatMap_cons, ih]; rfl
theorem Gi.rd {n : Nat} {g : AMem} {v : Value} {xs : List Int} (h : Gi n g v xs) : rdI g v xs := by
  rcases h with ⟨rfl, rfl⟩ | ⟨b, _, rfl, h2⟩
  · rfl
  · by_cases h0 : xs.length = 0
    · have : xs = [] := List.length_eq_zero_iff.1 h0
      subst this; rfl
    · refine Rd.of_row (e := 1) (fun _ => rfl) h2 (by simp [cI]) ?_ rfl
      rw [flatI, List.drop_zero, List.take_of_length_le (by simp [cI])]
theorem Gi.put {m n x : Nat} {g : AMem} {v : Value} {xs : List Int} {o : Option AObj} (h : Gi m g v xs) (hx : x < m) (hn : n ≤ m) : Gi n (gset g x o) v xs := by
  rcases h with h | ⟨b, hb, h1, h2⟩
  · exact Or.inl h
  · exact Or.inr ⟨b, by omega, h1, by rw [gset, if_neg (by omega)]; exact h2⟩
theorem Gi.le {m n : Nat} {g : AMem} {v : Value} {xs : List Int} (h : Gi m g v xs) (hn : n ≤ m) : Gi n g v xs := h.imp id fun ⟨b, hb, h1, h2⟩ => ⟨b, by omega, h1, h2⟩
theorem Gi.new {n m : Nat} {g : AMem} {v : Value} {xs : List Int} {o : Option AObj} (h : Gi n g v xs) (hd : ∀ i, g i ≠ none → i < m) : Gi n (gset g m o) v xs := by
  rcases h with h | ⟨b, hb, h1, h2⟩
  · exact Or.inl h
  · have := hd b (by rw [h2]; simp)
    exact Or.inr ⟨b, hb, h1, by rw [gset, if_neg (by omega)]; exact h2⟩
/-- What is kept is kept; a slice of ours as well. -/
theorem Gi.kept {n m : Nat} {g g' : AMem} {n' : Nat} {v : Value} {xs : List Int} (h : Gi n g v xs) (hd : ∀ i, g i ≠ none → i < m) (hk : Kept g m g' n') : Gi n g' v xs := by
  rcases h with h | ⟨b, hb, h1, h2⟩
  · exact Or.inl h
  · have := hd b (by rw [h2]; simp)
    exact Or.inr ⟨b, hb, h1, by rw [hk.same b this]; exact h2⟩
def kidsU (u : List Int) (i : Int) (k : Nat) : List Int := ((List.range k).filter fun k => decide (upAt u (k : Nat) = i)).map Int.ofNat
theorem kidsU_succ (u : List Int) (i : Int) (k : Nat) : kidsU u i (k + 1) = kidsU u i k ++ if upAt u (k : Nat) = i then [(k : Int)] else [] := by
  unfold kidsU
  rw [List.range_succ, List.filter_append, List.map_append]
  by_cases c : upAt u (k : Nat) = i
  · simp [c]
  · simp [c]
theorem kidsU_len (u : List Int) (i : Int) (k : Nat) : (kidsU u i k).length ≤ k := by
  unfold kidsU
  rw [List.length_map]
  exact Nat.le_trans (List.length_filter_le _ _) (by simp)
theorem cellsI_ok (xs : List Int) : (cI xs).all cellOk = true := by
  rw [List.all_eq_true]
  intro v hv
  obtain ⟨x, _, rfl⟩ := List.mem_map.1 hv
  rfl
theorem readI {g : AMem} {v : Value} {xs : List Int} (h : rdI g v xs) : aRead g 1 v = some (xs.length, cI xs) := by rw [← flatI]; exact h
theorem beh_take (u : List Int) (f : Nat) (l : List Int) (k : Nat) (hk : k < l.length) : behF u (f + 1) (l.take (k + 1)) = behF u (f + 1) (l.take k) ++ (l[k] :: behF u f (kidsF u l[k])) := by
  rw [take_snoc l k hk]
  simp only [behF, List.flatMap_append, List.flatMap_cons, List.flatMap_nil, List.append_nil]
theorem beh_take_le (u : List Int) (f : Nat) (l : List Int) (k : Nat) : (behF u (f + 1) (l.take k)).length ≤ (behF u (f + 1) l).length := by
  have e : behF u (f + 1) l = behF u (f + 1) (l.take k) ++ behF u (f + 1) (l.drop k) := by
    simp only [behF, ← List.flatMap_append, List.take_append_drop]
  rw [e, List.length_append]
  omega
end Go.Proofs.Ytkcahnefekkfaaa.F13W

namespace Go.Proofs.Ytkcahnefekkfaaa.F13W
open Go Go.Proofs Go.Proofs.YtkcahnefekkfaaaAbs
variable [Base]
set_option maxHeartbeats 8000000
set_option maxRecDepth 100000
/-! ### What state.Good asks, part by part -/
def noTg : Tg := ⟨0, 0, 0, 0, 0, 0, 0, false, 0#64, 0#64, 0#64, 0#64, 0#64⟩
/-- The thing of a number. -/
def tgAt (ts : List Tg) (t : Int) : Tg := ts.getD t.toNat noTg
def thereS (ts : List Tg) (t : Int) : Bool := decide (0 ≤ t ∧ t < ts.length ∧ (tgAt ts t).ty ≠ 0)
theorem tgAt_nat {ts : List Tg} {i : Nat} (h : i < ts.length) : tgAt ts i = ts[i] := by simp [tgAt, h]
/-- A thing's first number, loaded. -/
theorem rd_tg {g : AMem} {v : Value} {xs : List Tg} (h : rdG g v xs) {i : Nat} (hi : i < xs.length) :
    ∃ b o, v = .slice (some ⟨b, o, none⟩) xs.length 13 ∧ ∀ (g2 : AMem), Ext g g2 → ∀ (P : Program) (t : TypeId), tagg P t = some false → aLoad P g2 t (.pointer (some ⟨b, o + i * 13, none⟩)) = some (.int .i64 xs[i].ty) := by
  obtain ⟨b, o, cs, r, h1, h2, h3, h4, h5⟩ := Rd.elem h cG_len hi
  exact ⟨b, o, h1, fun g2 hx P t ht => load_elem1 (hx _ _ h2) ht ((h5 0 (by omega)).trans rfl)⟩
theorem state_there (a b c : Int) (VS VT : Value) (ts : List Tg) (t : Int) (g : AMem) (n : Nat) (ht : rdG g VT ts) : FnC Try.prog f_state_State_there [sv a b c VS VT, .int .i64 t] g n (fun _ => False) (.bool (thereS ts t)) g n := by
  refine fnC_of_rwp t_state_State_there hm rfl fun hdom => ?_
  obtain ⟨ya, ye, hVT⟩ := ht.form
  have k1 : Kept g n (gset g n (some (rowS a b c VS VT))) (n + 1) := (by repeat first | exact Kept.refl hdom | refine Kept.new ?_ _ | refine Kept.drop ?_ (by omega) | refine Kept.put ?_ (by omega) (by omega) _ | refine Kept.skip ?_)
  by_cases c1 : 0 ≤ t
  case neg =>
    rw [show thereS ts t = false by simp [thereS, c1]]
    simp (maxSteps := 1000000) (disch := first | assumption | omega | rfl | decide | simp only [fitsR, Bool.and_self]) [↓rules, rules, ↓rulesDp, rulesDq, lit_u64, Int.ofNat_inj, stops, rc_state_State_there, q_int, q_bool, q_geo_Geo, q_S_state_Slot, q_S_thing_Thing, q_state_State, q_cap_Cap, q_state_Slot, q_uint64, q_A4_uint64, q_thing_Thing, c1]
    exact done_q hdom (by repeat first | exact Kept.refl hdom | refine Kept.new ?_ _ | refine Kept.drop ?_ (by omega) | refine Kept.put ?_ (by omega) (by omega) _ | refine Kept.skip ?_) rfl rfl
  by_cases c2 : t < (ts.length : Int)
  case neg =>
    rw [show thereS ts t = false by simp [thereS, c2]]
    simp (maxSteps := 1000000) (disch := first | assumption | omega | rfl | decide | simp only [fitsR, Bool.and_self]) [↓rules, rules, ↓rulesDp, rulesDq, lit_u64, Int.ofNat_inj, stops, rc_state_State_there, q_int, q_bool, q_geo_Geo, q_S_state_Slot, q_S_thing_Thing, q_state_State, q_cap_Cap, q_state_Slot, q_uint64, q_A4_uint64, q_thing_Thing, hVT, c1, c2]
    exact done_q hdom (by repeat first | exact Kept.refl hdom | refine Kept.new ?_ _ | refine Kept.drop ?_ (by omega) | refine Kept.put ?_ (by omega) (by omega) _ | refine Kept.skip ?_) rfl rfl
  obtain ⟨k, rfl⟩ : ∃ k : Nat, t = k := ⟨t.toNat, by omega⟩
  have hk : k < ts.length := by omega
  obtain ⟨b1, o1, f1, f2⟩ := rd_tg ht hk
  have e1 := f2 _ (k1.ext hdom) Try.prog _ ta_int
  rw [f1] at e1
  simp (maxSteps := 1000000) (disch := first | assumption | omega | rfl | decide | simp only [fitsR, Bool.and_self]) [↓rules, rules, ↓rulesDp, rulesDq, lit_u64, Int.ofNat_inj, stops, rc_state_State_there, q_int, q_bool, q_geo_Geo, q_S_state_Slot, q_S_thing_Thing, q_state_State, q_cap_Cap, q_state_Slot, q_uint64, q_A4_uint64, q_thing_Thing, f1, c1, c2, e1]
  refine done_q hdom (by repeat first | exact Kept.refl hdom | refine Kept.new ?_ _ | refine Kept.drop ?_ (by omega) | refine Kept.put ?_ (by omega) (by omega) _ | refine Kept.skip ?_) rfl ?_
  rw [show thereS ts (k : Int) = !decide (ts[k].ty = 0) by simp [thereS, tgAt_nat hk, hk]]
  rfl
def noneS (x : Sl) : Bool := noneC x.ty x.th x.ri x.ba
def capOk (ts : List Tg) (x : Sl) : Bool := goodC x.ty x.th x.ri x.ba && (if noneS x = true then decide (x.up = -1) else decide (-1 ≤ x.up) && (thereS ts x.th && decide ((tgAt ts x.th).ty = x.ty)))
theorem state_caps (a b c : Int) (VS VT : Value) (ss : List Sl) (ts : List Tg) (g : AMem) (n : Nat) (hl : ss.length ≤ 100000) (hs : rdS g VS ss) (ht : rdG g VT ts) : FnC Try.prog f_state_State_caps [sv a b c VS VT] g n (fun _ => False) (.bool (ss.all (capOk ts))) g n := by
  refine fnC_of_rwp t_state_State_caps hm rfl fun hdom => ?_
  obtain ⟨xa, xe, hVS⟩ := hs.form
  obtain ⟨ya, ye, hVT⟩ := ht.form
  simp (maxSteps := 1000000) (disch := first | assumption | omega | rfl | decide | simp only [fitsR, Bool.and_self]) [↓rules, rules, ↓rulesDp, rulesDq, lit_u64, Int.ofNat_inj, stops, rc_state_State_caps, q_int, q_bool, q_geo_Geo, q_S_state_Slot, q_S_thing_Thing, q_state_State, q_cap_Cap, q_state_Slot, q_uint64, q_A4_uint64, q_thing_Thing, hVS]
  rw [← hVS]
  refine rwp_loop (fun j l g' n' => ∃ i, j = ss.length - i ∧ i ≤ ss.length ∧ Kept g n g' n' ∧ n + 1 ≤ n' ∧ g' n = some (rowS a b c VS VT) ∧ ss.all (capOk ts) = (ss.drop i).all (capOk ts) ∧ l = [(1, .pointer (some ⟨n, 0, none⟩)), (7, VS), (8, .int .i64 ss.length), (9, .int .i64 i)]) ?_ (k := ss.length) ?_
  · rintro j l g' n' ⟨i, rfl, hi, kp, hn', r0, he, rfl⟩
    by_cases hlt : (i : Int) < (ss.length : Int)
    case neg =>
      have : i = ss.length := by omega
      subst this
      rw [List.drop_length] at he
      simp (maxSteps := 1000000) (disch := first | assumption | omega | rfl | decide | simp only [fitsR, Bool.and_self]) [↓rules, rules, ↓rulesDp, rulesDq, lit_u64, Int.ofNat_inj, stops, rc_state_State_capsl0, q_int, q_bool, q_geo_Geo, q_S_state_Slot, q_S_thing_Thing, q_state_State, q_cap_Cap, q_state_Slot, q_uint64, q_A4_uint64, q_thing_Thing, hlt]
      refine done_q hdom kp rfl ?_
      rw [he]; rfl
    have hlt1 : i < ss.length := by omega
    obtain ⟨b1, o1, f1, _, f2⟩ := rd_big hs cS_len hlt1
    have e1 := f2 g' (kp.ext hdom) Try.prog _ ta_state_Slot ts_state_Slot
    simp only [cS] at e1
    rw [List.drop_eq_getElem_cons hlt1, List.all_cons] at he
    have w1 : IntKind.i64.wrap ((i : Int) + 1) = ((i + 1 : Nat) : Int) := by rw [wrap_i64 (by omega) (by omega)]; omega
    generalize hx : ss[i] = x at *
    obtain ⟨ty, th, ri, ba, up⟩ := x
    simp (maxSteps := 1000000) (disch := first | assumption | omega | rfl | decide | simp only [fitsR, Bool.and_self]) [↓rules, rules, ↓rulesDp, rulesDq, lit_u64, Int.ofNat_inj, stops, rc_state_State_capsl0, q_int, q_bool, q_geo_Geo, q_S_state_Slot, q_S_thing_Thing, q_state_State, q_cap_Cap, q_state_Slot, q_uint64, q_A4_uint64, q_thing_Thing, f1, hlt, e1]
    rw [← f1]
    have k8 : Kept g n (gset (gset g' n' (some (.row [.int .i64 ty, .int .i64 th, .int .i64 ri, .int .i64 ba, .int .i64 up] true))) (n' + 1) (some (.row [.int .i64 ty, .int .i64 th, .int .i64 ri, .int .i64 ba] true))) (n' + 1 + 1) := (by repeat first | exact kp | refine Kept.new ?_ _ | refine Kept.drop ?_ (by omega) | refine Kept.put ?_ (by omega) (by omega) _ | refine Kept.skip ?_)
    refine ⟨by omega, by omega, ?_⟩
    refine rcall_quiet rfl (cap_Good ty th ri ba _ _) ?_
    have bad : capOk ts ⟨ty, th, ri, ba, up⟩ = false → ss.all (capOk ts) = false := fun h => by rw [he, h, Bool.false_and]
    have good : capOk ts ⟨ty, th, ri, ba, up⟩ = true → ss.all (capOk ts) = (ss.drop (i + 1)).all (capOk ts) := fun h => by rw [he, h, Bool.true_and]
    cases cgd : goodC ty th ri ba
    · rw [bad (by simp [capOk, cgd])]
      simp (maxSteps := 1000000) (disch := first | assumption | omega | rfl | decide | simp only [fitsR, Bool.and_self]) [↓rules, rules, ↓rulesDp, rulesDq, lit_u64, Int.ofNat_inj, stops, q_int, q_bool, q_geo_Geo, q_S_state_Slot, q_S_thing_Thing, q_state_State, q_cap_Cap, q_state_Slot, q_uint64, q_A4_uint64, q_thing_Thing]
      exact done_q hdom k8 rfl rfl
    simp (maxSteps := 1000000) (disch := first | assumption | omega | rfl | decide | simp only [fitsR, Bool.and_self]) [↓rules, rules, ↓rulesDp, rulesDq, lit_u64, Int.ofNat_inj, stops, q_int, q_bool, q_geo_Geo, q_S_state_Slot, q_S_thing_Thing, q_state_State, q_cap_Cap, q_state_Slot, q_uint64, q_A4_uint64, q_thing_Thing]
    refine rcall_quiet rfl (cap_None ty th ri ba _ _) ?_
    cases cn : noneC ty th ri ba
    · simp (maxSteps := 1000000) (disch := first | assumption | omega | rfl | decide | simp only [fitsR, Bool.and_self]) [↓rules, rules, ↓rulesDp, rulesDq, lit_u64, Int.ofNat_inj, stops, q_int, q_bool, q_geo_Geo, q_S_state_Slot, q_S_thing_Thing, q_state_State, q_cap_Cap, q_state_Slot, q_uint64, q_A4_uint64, q_thing_Thing]
      refine rcall_quiet rfl (cap_None ty th ri ba _ _) ?_
      rw [cn]
      by_cases cu : up < -1
      · rw [bad (by simp [capOk, cgd, noneS, cn]; omega)]
        simp (maxSteps := 1000000) (disch := first | assumption | omega | rfl | decide | simp only [fitsR, Bool.and_self]) [↓rules, rules, ↓rulesDp, rulesDq, lit_u64, Int.ofNat_inj, stops, q_int, q_bool, q_geo_Geo, q_S_state_Slot, q_S_thing_Thing, q_state_State, q_cap_Cap, q_state_Slot, q_uint64, q_A4_uint64, q_thing_Thing, cu]
        exact done_q hdom k8 rfl rfl
      simp (maxSteps := 1000000) (disch := first | assumption | omega | rfl | decide | simp only [fitsR, Bool.and_self]) [↓rules, rules, ↓rulesDp, rulesDq, lit_u64, Int.ofNat_inj, stops, q_int, q_bool, q_geo_Geo, q_S_state_Slot, q_S_thing_Thing, q_state_State, q_cap_Cap, q_state_Slot, q_uint64, q_A4_uint64, q_thing_Thing, cu]
      refine rcall_quiet rfl (cap_None ty th ri ba _ _) ?_
      rw [cn]
      simp (maxSteps := 1000000) (disch := first | assumption | omega | rfl | decide | simp only [fitsR, Bool.and_self]) [↓rules, rules, ↓rulesDp, rulesDq, lit_u64, Int.ofNat_inj, stops, q_int, q_bool, q_geo_Geo, q_S_state_Slot, q_S_thing_Thing, q_state_State, q_cap_Cap, q_state_Slot, q_uint64, q_A4_uint64, q_thing_Thing, r0]
      refine rcall_quiet rfl (state_there a b c VS VT ts th _ _ (ht.ext (k8.ext hdom))) ?_
      cases ct : thereS ts th
      · rw [bad (by simp [capOk, cgd, noneS, cn, ct])]
        simp (maxSteps := 1000000) (disch := first | assumption | omega | rfl | decide | simp only [fitsR, Bool.and_self]) [↓rules, rules, ↓rulesDp, rulesDq, lit_u64, Int.ofNat_inj, stops, q_int, q_bool, q_geo_Geo, q_S_state_Slot, q_S_thing_Thing, q_state_State, q_cap_Cap, q_state_Slot, q_uint64, q_A4_uint64, q_thing_Thing]
        exact done_q hdom k8 rfl rfl
      obtain ⟨t0, t1, _⟩ : 0 ≤ th ∧ th < ts.length ∧ (tgAt ts th).ty ≠ 0 := by simpa [thereS] using ct
      obtain ⟨q, rfl⟩ : ∃ q : Nat, th = q := ⟨th.toNat, by omega⟩
      have hq : q < ts.length := by omega
      obtain ⟨b3, o3, f3, f4⟩ := rd_tg ht hq
      have e3 := f4 _ (k8.ext hdom) Try.prog _ ta_int
      have r0' := r0
      rw [f3] at r0'
      by_cases cy : ts[q].ty = ty
      · simp (maxSteps := 1000000) (disch := first | assumption | omega | rfl | decide | simp only [fitsR, Bool.and_self]) [↓rules, rules, ↓rulesDp, rulesDq, lit_u64, Int.ofNat_inj, stops, q_int, q_bool, q_geo_Geo, q_S_state_Slot, q_S_thing_Thing, q_state_State, q_cap_Cap, q_state_Slot, q_uint64, q_A4_uint64, q_thing_Thing, r0', t1, e3, cy, w1]
        exact ⟨ss.length - (i + 1), by omega, i + 1, rfl, by omega, k8, by omega, f3.symm, good (by simp [capOk, cgd, noneS, cn, ct, tgAt_nat hq, cy]; omega), by omega⟩
      · rw [bad (by simp [capOk, cgd, noneS, cn, ct, tgAt_nat hq, cy])]
        simp (maxSteps := 1000000) (disch := first | assumption | omega | rfl | decide | simp only [fitsR, Bool.and_self]) [↓rules, rules, ↓rulesDp, rulesDq, lit_u64, Int.ofNat_inj, stops, q_int, q_bool, q_geo_Geo, q_S_state_Slot, q_S_thing_Thing, q_state_State, q_cap_Cap, q_state_Slot, q_uint64, q_A4_uint64, q_thing_Thing, r0', t1, e3, cy]
        exact done_q hdom k8 rfl rfl
    · by_cases cu : up = -1
      · simp (maxSteps := 1000000) (disch := first | assumption | omega | rfl | decide | simp only [fitsR, Bool.and_self]) [↓rules, rules, ↓rulesDp, rulesDq, lit_u64, Int.ofNat_inj, stops, q_int, q_bool, q_geo_Geo, q_S_state_Slot, q_S_thing_Thing, q_state_State, q_cap_Cap, q_state_Slot, q_uint64, q_A4_uint64, q_thing_Thing, cu]
        refine rcall_quiet rfl (cap_None ty th ri ba _ _) ?_
        rw [cn]
        simp (maxSteps := 1000000) (disch := first | assumption | omega | rfl | decide | simp only [fitsR, Bool.and_self]) [↓rules, rules, ↓rulesDp, rulesDq, lit_u64, Int.ofNat_inj, stops, q_int, q_bool, q_geo_Geo, q_S_state_Slot, q_S_thing_Thing, q_state_State, q_cap_Cap, q_state_Slot, q_uint64, q_A4_uint64, q_thing_Thing]
        refine rcall_quiet rfl (cap_None ty th ri ba _ _) ?_
        rw [cn]
        simp (maxSteps := 1000000) (disch := first | assumption | omega | rfl | decide | simp only [fitsR, Bool.and_self]) [↓rules, rules, ↓rulesDp, rulesDq, lit_u64, Int.ofNat_inj, stops, q_int, q_bool, q_geo_Geo, q_S_state_Slot, q_S_thing_Thing, q_state_State, q_cap_Cap, q_state_Slot, q_uint64, q_A4_uint64, q_thing_Thing, w1]
        exact ⟨ss.length - (i + 1), by omega, i + 1, rfl, by omega, (by repeat first | exact kp | refine Kept.new ?_ _ | refine Kept.drop ?_ (by omega) | refine Kept.put ?_ (by omega) (by omega) _ | refine Kept.skip ?_), by omega, r0, good (by simp [capOk, cgd, noneS, cn, cu]), by omega⟩
      · rw [bad (by simp [capOk, cgd, noneS, cn, cu])]
        simp (maxSteps := 1000000) (disch := first | assumption | omega | rfl | decide | simp only [fitsR, Bool.and_self]) [↓rules, rules, ↓rulesDp, rulesDq, lit_u64, Int.ofNat_inj, stops, q_int, q_bool, q_geo_Geo, q_S_state_Slot, q_S_thing_Thing, q_state_State, q_cap_Cap, q_state_Slot, q_uint64, q_A4_uint64, q_thing_Thing, cu]
        exact done_q hdom k8 rfl rfl
  · exact ⟨0, by simp, by simp, (by repeat first | exact Kept.refl hdom | refine Kept.new ?_ _ | refine Kept.drop ?_ (by omega) | refine Kept.put ?_ (by omega) (by omega) _ | refine Kept.skip ?_), by omega, by simp [gset], by rw [List.drop_zero], by rfl⟩
end Go.Proofs.Ytkcahnefekkfaaa.F13W

namespace Go.Proofs.Ytkcahnefekkfaaa.F13W
open Go Go.Proofs Go.Proofs.YtkcahnefekkfaaaAbs
variable [Base]
set_option maxHeartbeats 8000000
set_option maxRecDepth 100000
def noSl : Sl := ⟨0, 0, 0, 0, 0⟩
def slAt (ss : List Sl) (i : Int) : Sl := ss.getD i.toNat noSl
theorem slAt_nat {ss : List Sl} {i : Nat} (h : i < ss.length) : slAt ss i = ss[i] := by simp [slAt, h]
/-- The slots whose capability is of a thing. -/
def holdU (ss : List Sl) (t : Int) (k : Nat) : List Int := ((List.range k).filter fun (k : Nat) => !noneS (slAt ss k) && decide ((slAt ss k).th = t)).map Int.ofNat
def holdS (ss : List Sl) (t : Int) : List Int := holdU ss t ss.length
theorem holdU_succ (ss : List Sl) (t : Int) (k : Nat) : holdU ss t (k + 1) = holdU ss t k ++ if (!noneS (slAt ss k) && decide ((slAt ss k).th = t)) = true then [(k : Int)] else [] := by
  unfold holdU
  rw [List.range_succ, List.filter_append, List.map_append]
  cases h : !noneS (slAt ss k) && decide ((slAt ss k).th = t)
  · simp [h]
  · simp [h]
theorem holdU_len (ss : List Sl) (t : Int) (k : Nat) : (holdU ss t k).length ≤ k := by
  unfold holdU
  rw [List.length_map]
  exact Nat.le_trans (List.length_filter_le _ _) (by simp)
theorem state_holders (a b c : Int) (VS VT : Value) (ss : List Sl) (t : Int) (g : AMem) (n : Nat) (hdom : ∀ i, g i ≠ none → i < n) (hl : ss.length ≤ 100000) (hs : rdS g VS ss) :
    FnS Try.prog f_state_State_holders [sv a b c VS VT, .int .i64 t] g n (fun _ => False) fun v g' n' => Gi n g' v (holdS ss t) ∧ Kept g n g' n' := by
  refine fnS_of_rwp t_state_State_holders hm rfl hdom ?_
  obtain ⟨xa, xe, hVS⟩ := hs.form
  simp (maxSteps := 1000000) (disch := first | assumption | omega | rfl | decide | simp only [fitsR, Bool.and_self]) [↓rules, rules, ↓rulesDp, rulesDq, lit_u64, Int.ofNat_inj, stops, rc_state_State_holders, q_int, q_bool, q_geo_Geo, q_S_state_Slot, q_S_thing_Thing, q_state_State, q_cap_Cap, q_state_Slot, q_S_int, q_uint64, q_A4_uint64, q_thing_Thing, hVS]
  rw [← hVS]
  refine rwp_loop (fun j l g' n' => ∃ k V, j = ss.length - k ∧ k ≤ ss.length ∧ Kept g n g' n' ∧ Gi n g' V (holdU ss t k) ∧ l = [(1, .int .i64 t), (5, V), (9, VS), (10, .int .i64 ss.length), (11, .int .i64 k)]) ?_ (k := ss.length) ?_
  · rintro j l g' n' ⟨k, V, rfl, hk, kp, hV, rfl⟩
    by_cases hlt : (k : Int) < (ss.length : Int)
    case neg =>
      have : k = ss.length := by omega
      subst this
      simp (maxSteps := 1000000) (disch := first | assumption | omega | rfl | decide | simp only [fitsR, Bool.and_self]) [↓rules, rules, ↓rulesDp, rulesDq, lit_u64, Int.ofNat_inj, stops, rc_state_State_holdersl0, q_int, q_bool, q_geo_Geo, q_S_state_Slot, q_S_thing_Thing, q_state_State, q_cap_Cap, q_state_Slot, q_S_int, q_uint64, q_A4_uint64, q_thing_Thing, hlt]
      exact sdone_ret rfl ⟨hV, kp⟩
    have hlt1 : k < ss.length := by omega
    obtain ⟨b1, o1, f1, _, f2⟩ := rd_big hs cS_len hlt1
    have e1 := f2 g' (kp.ext hdom) Try.prog _ ta_state_Slot ts_state_Slot
    simp only [cS] at e1
    have w1 : IntKind.i64.wrap ((k : Int) + 1) = ((k + 1 : Nat) : Int) := by rw [wrap_i64 (by omega) (by omega)]; omega
    have hs' := holdU_succ ss t k
    rw [slAt_nat hlt1] at hs'
    have hlen := holdU_len ss t k
    have hkl := kp.le
    generalize hx : ss[k] = x at *
    obtain ⟨ty, th, ri, ba, up⟩ := x
    simp (maxSteps := 1000000) (disch := first | assumption | omega | rfl | decide | simp only [fitsR, Bool.and_self]) [↓rules, rules, ↓rulesDp, rulesDq, lit_u64, Int.ofNat_inj, stops, rc_state_State_holdersl0, q_int, q_bool, q_geo_Geo, q_S_state_Slot, q_S_thing_Thing, q_state_State, q_cap_Cap, q_state_Slot, q_S_int, q_uint64, q_A4_uint64, q_thing_Thing, f1, hlt, e1]
    rw [← f1]
    have k8 := kp.new (.row [.int .i64 ty, .int .i64 th, .int .i64 ri, .int .i64 ba, .int .i64 up] true)
    have hV8 := hV.new (o := some (.row [.int .i64 ty, .int .i64 th, .int .i64 ri, .int .i64 ba, .int .i64 up] true)) kp.dom
    generalize hG8 : gset g' n' (some (.row [.int .i64 ty, .int .i64 th, .int .i64 ri, .int .i64 ba, .int .i64 up] true)) = G8 at *
    have r8 : G8 n' = some (.row [.int .i64 ty, .int .i64 th, .int .i64 ri, .int .i64 ba, .int .i64 up] true) := by rw [← hG8]; simp [gset]
    refine ⟨by omega, ?_⟩
    refine rcall_quiet rfl (cap_None ty th ri ba _ _) ?_
    cases cn : noneC ty th ri ba
    · by_cases ct : th = t
      · replace hs' : holdU ss t (k + 1) = holdU ss t k ++ [(k : Int)] := by rw [hs', if_pos (by subst ct; simp [noneS, cn])]
        subst ct
        rcases hV8 with ⟨rfl, hnil⟩ | ⟨bV, hbV, rfl, hgV⟩
        · simp (maxSteps := 1000000) (disch := first | assumption | omega | rfl | decide | simp only [fitsR, Bool.and_self]) [↓rules, rules, ↓rulesDp, rulesDq, lit_u64, Int.ofNat_inj, stops, q_int, q_bool, q_geo_Geo, q_S_state_Slot, q_S_thing_Thing, q_state_State, q_cap_Cap, q_state_Slot, q_S_int, q_uint64, q_A4_uint64, q_thing_Thing, r8, w1]
          refine ⟨ss.length - (k + 1), by omega, k + 1, rfl, by omega, (k8.new _).new _, _, ?_, rfl, by omega⟩
          rw [hs', hnil]
          exact Or.inr ⟨n' + 1 + 1, by omega, rfl, by simp [gset]⟩
        · have hbm := k8.dom bV (by rw [hgV]; simp)
          have hbn1 : bV ≠ n' + 1 := by omega
          generalize hcs : holdU ss th k = cs at *
          have hsz : (cs.length + 1) * 8 ≤ 70368744177664 := by omega
          have hsz2 : cs.length ≤ 70368744177663 := by omega
          simp (maxSteps := 1000000) (disch := first | assumption | omega | rfl | decide | simp only [fitsR, Bool.and_self]) [↓rules, rules, ↓rulesDp, rulesDq, lit_u64, Int.ofNat_inj, stops, q_int, q_bool, q_geo_Geo, q_S_state_Slot, q_S_thing_Thing, q_state_State, q_cap_Cap, q_state_Slot, q_S_int, q_uint64, q_A4_uint64, q_thing_Thing, r8, w1, hgV, hbn1, hsz, hsz2]
          refine ⟨by omega, ss.length - (k + 1), by omega, k + 1, rfl, by omega, ((k8.new _).drop hbV).new _, _, ?_, rfl, by omega⟩
          rw [hs']
          exact Or.inr ⟨n' + 1 + 1, by omega, by simp, by simp [gset, cI]⟩
      · replace hs' : holdU ss t (k + 1) = holdU ss t k := by rw [hs', if_neg (by simp [noneS, cn, ct]), List.append_nil]
        simp (maxSteps := 1000000) (disch := first | assumption | omega | rfl | decide | simp only [fitsR, Bool.and_self]) [↓rules, rules, ↓rulesDp, rulesDq, lit_u64, Int.ofNat_inj, stops, q_int, q_bool, q_geo_Geo, q_S_state_Slot, q_S_thing_Thing, q_state_State, q_cap_Cap, q_state_Slot, q_S_int, q_uint64, q_A4_uint64, q_thing_Thing, r8, ct, w1]
        exact ⟨ss.length - (k + 1), by omega, k + 1, rfl, by omega, k8, V, by rw [hs']; exact hV8, rfl, by omega⟩
    · replace hs' : holdU ss t (k + 1) = holdU ss t k := by rw [hs', if_neg (by simp [noneS, cn]), List.append_nil]
      simp (maxSteps := 1000000) (disch := first | assumption | omega | rfl | decide | simp only [fitsR, Bool.and_self]) [↓rules, rules, ↓rulesDp, rulesDq, lit_u64, Int.ofNat_inj, stops, q_int, q_bool, q_geo_Geo, q_S_state_Slot, q_S_thing_Thing, q_state_State, q_cap_Cap, q_state_Slot, q_S_int, q_uint64, q_A4_uint64, q_thing_Thing, w1]
      exact ⟨ss.length - (k + 1), by omega, k + 1, rfl, by omega, k8, V, by rw [hs']; exact hV8, rfl, by omega⟩
  · refine ⟨0, .slice none 0 0, by simp, by simp, (by repeat first | exact Kept.refl hdom | refine Kept.new ?_ _ | refine Kept.drop ?_ (by omega) | refine Kept.put ?_ (by omega) (by omega) _ | refine Kept.skip ?_), Or.inl ⟨rfl, rfl⟩, by rfl⟩
end Go.Proofs.Ytkcahnefekkfaaa.F13W

namespace Go.Proofs.Ytkcahnefekkfaaa.F13W
open Go Go.Proofs Go.Proofs.YtkcahnefekkfaaaAbs
variable [Base]
set_option maxHeartbeats 8000000
set_option maxRecDepth 100000
/-! ### What came of what -/
def upS (x : Sl) : Int := if noneS x = true then -2 else x.up
def upsS (ss : List Sl) : List Int := ss.map upS
theorem state_Forest (a b c : Int) (VS VT : Value) (ss : List Sl) (g : AMem) (n : Nat) (hdom : ∀ i, g i ≠ none → i < n) (hl : ss.length ≤ 100000) (hs : rdS g VS ss) :
    FnS Try.prog f_state_Forest [sv a b c VS VT] g n (fun _ => False) fun v g' n' => ∃ V, v = fv V ∧ Gi n g' V (upsS ss) ∧ Kept g n g' n' := by
  refine fnS_of_rwp t_state_Forest hm rfl hdom ?_
  obtain ⟨xa, xe, hVS⟩ := hs.form
  simp (maxSteps := 1000000) (disch := first | assumption | omega | rfl | decide | simp only [fitsR, Bool.and_self]) [↓rules, rules, ↓rulesDp, rulesDq, lit_u64, Int.ofNat_inj, stops, rc_state_Forest, q_int, q_bool, q_geo_Geo, q_S_state_Slot, q_S_thing_Thing, q_state_State, q_cap_Cap, q_state_Slot, q_S_int, q_uint64, q_A4_uint64, q_thing_Thing, q_forest_Forest, hVS]
  rw [← hVS]
  refine rwp_loop (fun j l g' n' => ∃ k V, j = ss.length - k ∧ k ≤ ss.length ∧ Kept g n g' n' ∧ n + 1 + 1 + 1 ≤ n' ∧ g' (n + 1) = some (.row [.slice none 0 0] true) ∧ g' (n + 1 + 1) = some (.row [V] true) ∧ Gi (n + 1 + 1 + 1) g' V (upsS (ss.take k)) ∧ l = [(2, .pointer (some ⟨n + 1, 0, none⟩)), (3, .pointer (some ⟨n + 1 + 1, 0, none⟩)), (7, VS), (8, .int .i64 ss.length), (9, .int .i64 k)]) ?_ (k := ss.length) ?_
  · rintro j l g' n' ⟨k, V, rfl, hk, kp, hn', r1, r2, hV, rfl⟩
    by_cases hlt : (k : Int) < (ss.length : Int)
    case neg =>
      have : k = ss.length := by omega
      subst this
      rw [List.take_length] at hV
      have hcV : cellOk V = true := by obtain ⟨pa, pe, h⟩ := hV.rd.form; rw [h]; rfl
      simp (maxSteps := 1000000) (disch := first | assumption | omega | rfl | decide | simp only [fitsR, Bool.and_self]) [↓rules, rules, ↓rulesDp, rulesDq, lit_u64, Int.ofNat_inj, stops, rc_state_Forestl0, q_int, q_bool, q_geo_Geo, q_S_state_Slot, q_S_thing_Thing, q_state_State, q_cap_Cap, q_state_Slot, q_S_int, q_uint64, q_A4_uint64, q_thing_Thing, q_forest_Forest, hlt, r1, r2, hcV]
      exact sdone_ret (v := fv V) (by simp (maxSteps := 1000000) (disch := first | assumption | omega | rfl | decide | simp only [fitsR, Bool.and_self]) [↓rules, rules, ↓rulesDp, rulesDq, lit_u64, Int.ofNat_inj, stops, aResults, aRes, q_int, q_bool, q_geo_Geo, q_S_state_Slot, q_S_thing_Thing, q_state_State, q_cap_Cap, q_state_Slot, q_S_int, q_uint64, q_A4_uint64, q_thing_Thing, q_forest_Forest]) ⟨_, rfl, hV.put (by omega) (by omega), kp.put (by omega) (by omega) _⟩
    have hlt1 : k < ss.length := by omega
    obtain ⟨b1, o1, f1, _, f2⟩ := rd_big hs cS_len hlt1
    have e1 := f2 g' (kp.ext hdom) Try.prog _ ta_state_Slot ts_state_Slot
    simp only [cS] at e1
    have w1 : IntKind.i64.wrap ((k : Int) + 1) = ((k + 1 : Nat) : Int) := by rw [wrap_i64 (by omega) (by omega)]; omega
    have hts : upsS (ss.take (k + 1)) = upsS (ss.take k) ++ [upS ss[k]] := by rw [tk_snoc ss k hlt1]; unfold upsS; rw [List.map_append]; rfl
    have hlen : (upsS (ss.take k)).length = k := by simp [upsS]; omega
    generalize hx : ss[k] = x at *
    obtain ⟨ty, th, ri, ba, up⟩ := x
    simp (maxSteps := 1000000) (disch := first | assumption | omega | rfl | decide | simp only [fitsR, Bool.and_self]) [↓rules, rules, ↓rulesDp, rulesDq, lit_u64, Int.ofNat_inj, stops, rc_state_Forestl0, q_int, q_bool, q_geo_Geo, q_S_state_Slot, q_S_thing_Thing, q_state_State, q_cap_Cap, q_state_Slot, q_S_int, q_uint64, q_A4_uint64, q_thing_Thing, q_forest_Forest, f1, hlt, e1]
    rw [← f1]
    have k8 := kp.new (.row [.int .i64 ty, .int .i64 th, .int .i64 ri, .int .i64 ba, .int .i64 up] true)
    refine ⟨by omega, ?_⟩
    refine rcall_quiet rfl (cap_None ty th ri ba _ _) ?_
    cases cn : noneC ty th ri ba
    · have hup : upS ⟨ty, th, ri, ba, up⟩ = up := by simp [upS, noneS, cn]
      rw [hup] at hts
      rcases hV with ⟨rfl, hnil⟩ | ⟨bV, hbV, rfl, hgV⟩
      · simp (maxSteps := 1000000) (disch := first | assumption | omega | rfl | decide | simp only [fitsR, Bool.and_self]) [↓rules, rules, ↓rulesDp, rulesDq, lit_u64, Int.ofNat_inj, stops, q_int, q_bool, q_geo_Geo, q_S_state_Slot, q_S_thing_Thing, q_state_State, q_cap_Cap, q_state_Slot, q_S_int, q_uint64, q_A4_uint64, q_thing_Thing, q_forest_Forest, r2, w1]
        refine ⟨by omega, ss.length - (k + 1), by omega, k + 1, rfl, by omega, (by repeat first | exact kp | refine Kept.new ?_ _ | refine Kept.drop ?_ (by omega) | refine Kept.put ?_ (by omega) (by omega) _ | refine Kept.skip ?_), by omega, r1, ?_, by omega⟩
        rw [hts, hnil]
        refine Or.inr ⟨n' + 1 + 1, by omega, rfl, ?_⟩
        simp only [gset]
        rw [if_neg (by omega), if_pos trivial]; rfl
      · have hbm := kp.dom bV (by rw [hgV]; simp)
        have hbn : bV ≠ n' := by omega
        have hbn1 : bV ≠ n' + 1 := by omega
        generalize hcs : upsS (ss.take k) = cs at *
        have hsz : (k + 1) * 8 ≤ 70368744177664 := by omega
        have hsz2 : k + 1 ≤ 70368744177664 := by omega
        have hlc : (cI cs).length = k := by simp [cI, hlen]
        simp (maxSteps := 1000000) (disch := first | assumption | omega | rfl | decide | simp only [fitsR, Bool.and_self]) [↓rules, rules, ↓rulesDp, rulesDq, lit_u64, Int.ofNat_inj, stops, q_int, q_bool, q_geo_Geo, q_S_state_Slot, q_S_thing_Thing, q_state_State, q_cap_Cap, q_state_Slot, q_S_int, q_uint64, q_A4_uint64, q_thing_Thing, q_forest_Forest, r2, w1, hgV, hbn, hbn1, hlen, hsz, hsz2]
        refine ⟨by omega, by omega, ss.length - (k + 1), by omega, k + 1, rfl, by omega, (by repeat first | exact kp | refine Kept.new ?_ _ | refine Kept.drop ?_ (by omega) | refine Kept.put ?_ (by omega) (by omega) _ | refine Kept.skip ?_), by omega, r1, ?_, by omega⟩
        rw [hts]
        refine Or.inr ⟨n' + 1 + 1, by omega, by rw [List.length_append, hlen]; rfl, ?_⟩
        simp only [gset]
        rw [if_neg (by omega), if_pos trivial]; simp [cI]
    · have hup : upS ⟨ty, th, ri, ba, up⟩ = -2 := by simp [upS, noneS, cn]
      rw [hup] at hts
      rcases hV with ⟨rfl, hnil⟩ | ⟨bV, hbV, rfl, hgV⟩
      · simp (maxSteps := 1000000) (disch := first | assumption | omega | rfl | decide | simp only [fitsR, Bool.and_self]) [↓rules, rules, ↓rulesDp, rulesDq, lit_u64, Int.ofNat_inj, stops, q_int, q_bool, q_geo_Geo, q_S_state_Slot, q_S_thing_Thing, q_state_State, q_cap_Cap, q_state_Slot, q_S_int, q_uint64, q_A4_uint64, q_thing_Thing, q_forest_Forest, r2, w1]
        refine ⟨by omega, by omega, ss.length - (k + 1), by omega, k + 1, rfl, by omega, (by repeat first | exact kp | refine Kept.new ?_ _ | refine Kept.drop ?_ (by omega) | refine Kept.put ?_ (by omega) (by omega) _ | refine Kept.skip ?_), by omega, r1, ?_, by omega⟩
        rw [hts, hnil]
        refine Or.inr ⟨n' + 1 + 1, by omega, rfl, ?_⟩
        simp only [gset]
        rw [if_neg (by omega), if_pos trivial]; rfl
      · have hbm := kp.dom bV (by rw [hgV]; simp)
        have hbn : bV ≠ n' := by omega
        have hbn1 : bV ≠ n' + 1 := by omega
        generalize hcs : upsS (ss.take k) = cs at *
        have hsz : (k + 1) * 8 ≤ 70368744177664 := by omega
        have hsz2 : k + 1 ≤ 70368744177664 := by omega
        simp (maxSteps := 1000000) (disch := first | assumption | omega | rfl | decide | simp only [fitsR, Bool.and_self]) [↓rules, rules, ↓rulesDp, rulesDq, lit_u64, Int.ofNat_inj, stops, q_int, q_bool, q_geo_Geo, q_S_state_Slot, q_S_thing_Thing, q_state_State, q_cap_Cap, q_state_Slot, q_S_int, q_uint64, q_A4_uint64, q_thing_Thing, q_forest_Forest, r2, w1, hgV, hbn, hbn1, hlen, hsz, hsz2]
        refine ⟨by omega, by omega, by omega, ss.length - (k + 1), by omega, k + 1, rfl, by omega, (by repeat first | exact kp | refine Kept.new ?_ _ | refine Kept.drop ?_ (by omega) | refine Kept.put ?_ (by omega) (by omega) _ | refine Kept.skip ?_), by omega, r1, ?_, by omega⟩
        rw [hts]
        refine Or.inr ⟨n' + 1 + 1, by omega, by rw [List.length_append, hlen]; rfl, ?_⟩
        simp only [gset]
        rw [if_neg (by omega), if_pos trivial]; simp [cI]
  · refine ⟨0, .slice none 0 0, by simp, by simp, (by repeat first | exact Kept.refl hdom | refine Kept.new ?_ _ | refine Kept.drop ?_ (by omega) | refine Kept.put ?_ (by omega) (by omega) _ | refine Kept.skip ?_), by omega, by simp only [gset]; rw [if_neg (by omega), if_pos trivial], by simp [gset], Or.inl ⟨rfl, rfl⟩, by rfl⟩
end Go.Proofs.Ytkcahnefekkfaaa.F13W

namespace Go.Proofs.Ytkcahnefekkfaaa.F13W
open Go Go.Proofs Go.Proofs.YtkcahnefekkfaaaAbs
variable [Base]
set_option maxHeartbeats 8000000
set_option maxRecDepth 100000
/-! ### What is less than what it came of -/
def alOk (ss : List Sl) (x : Sl) : Bool := decide (x.up < 0) || (lessC x.ty x.th x.ri x.ba (slAt ss x.up).ty (slAt ss x.up).th (slAt ss x.up).ri (slAt ss x.up).ba || (decide ((slAt ss x.up).ty = 1) && !decide (x.th = (slAt ss x.up).th)))
theorem state_allowed (a b c : Int) (VS VT : Value) (ss : List Sl) (g : AMem) (n : Nat) (hl : ss.length ≤ 100000) (hs : rdS g VS ss) (hin : ∀ x, x ∈ ss → x.up < ss.length) : FnC Try.prog f_state_State_allowed [sv a b c VS VT] g n (fun _ => False) (.bool (ss.all (alOk ss))) g n := by
  refine fnC_of_rwp t_state_State_allowed hm rfl fun hdom => ?_
  obtain ⟨xa, xe, hVS⟩ := hs.form
  simp (maxSteps := 1000000) (disch := first | assumption | omega | rfl | decide | simp only [fitsR, Bool.and_self]) [↓rules, rules, ↓rulesDp, rulesDq, lit_u64, Int.ofNat_inj, stops, rc_state_State_allowed, q_int, q_bool, q_geo_Geo, q_S_state_Slot, q_S_thing_Thing, q_state_State, q_cap_Cap, q_state_Slot, q_uint64, q_A4_uint64, q_thing_Thing, hVS]
  rw [← hVS]
  refine rwp_loop (fun j l g' n' => ∃ i, j = ss.length - i ∧ i ≤ ss.length ∧ Kept g n g' n' ∧ n + 1 ≤ n' ∧ g' n = some (rowS a b c VS VT) ∧ ss.all (alOk ss) = (ss.drop i).all (alOk ss) ∧ l = [(1, .pointer (some ⟨n, 0, none⟩)), (7, VS), (8, .int .i64 ss.length), (9, .int .i64 i)]) ?_ (k := ss.length) ?_
  · rintro j l g' n' ⟨i, rfl, hi, kp, hn', r0, he, rfl⟩
    by_cases hlt : (i : Int) < (ss.length : Int)
    case neg =>
      have : i = ss.length := by omega
      subst this
      rw [List.drop_length] at he
      simp (maxSteps := 1000000) (disch := first | assumption | omega | rfl | decide | simp only [fitsR, Bool.and_self]) [↓rules, rules, ↓rulesDp, rulesDq, lit_u64, Int.ofNat_inj, stops, rc_state_State_allowedl0, q_int, q_bool, q_geo_Geo, q_S_state_Slot, q_S_thing_Thing, q_state_State, q_cap_Cap, q_state_Slot, q_uint64, q_A4_uint64, q_thing_Thing, hlt]
      refine done_q hdom kp rfl ?_
      rw [he]; rfl
    have hlt1 : i < ss.length := by omega
    obtain ⟨b1, o1, f1, _, f2⟩ := rd_big hs cS_len hlt1
    have e1 := f2 g' (kp.ext hdom) Try.prog _ ta_state_Slot ts_state_Slot
    simp only [cS] at e1
    rw [List.drop_eq_getElem_cons hlt1, List.all_cons] at he
    have hin1 := hin _ (List.getElem_mem hlt1)
    have w1 : IntKind.i64.wrap ((i : Int) + 1) = ((i + 1 : Nat) : Int) := by rw [wrap_i64 (by omega) (by omega)]; omega
    generalize hx : ss[i] = x at *
    obtain ⟨ty, th, ri, ba, up⟩ := x
    have bad : alOk ss ⟨ty, th, ri, ba, up⟩ = false → ss.all (alOk ss) = false := fun h => by rw [he, h, Bool.false_and]
    have good : alOk ss ⟨ty, th, ri, ba, up⟩ = true → ss.all (alOk ss) = (ss.drop (i + 1)).all (alOk ss) := fun h => by rw [he, h, Bool.true_and]
    have k7 : Kept g n (gset g' n' (some (.row [.int .i64 ty, .int .i64 th, .int .i64 ri, .int .i64 ba, .int .i64 up] true))) (n' + 1) := (by repeat first | exact kp | refine Kept.new ?_ _ | refine Kept.drop ?_ (by omega) | refine Kept.put ?_ (by omega) (by omega) _ | refine Kept.skip ?_)
    by_cases cu : up < 0
    · simp (maxSteps := 1000000) (disch := first | assumption | omega | rfl | decide | simp only [fitsR, Bool.and_self]) [↓rules, rules, ↓rulesDp, rulesDq, lit_u64, Int.ofNat_inj, stops, rc_state_State_allowedl0, q_int, q_bool, q_geo_Geo, q_S_state_Slot, q_S_thing_Thing, q_state_State, q_cap_Cap, q_state_Slot, q_uint64, q_A4_uint64, q_thing_Thing, f1, hlt, e1, cu, w1]
      exact ⟨by omega, ss.length - (i + 1), by omega, i + 1, rfl, by omega, k7, by omega, by rw [f1] at r0; exact r0, good (by simp [alOk, cu]), by omega⟩
    obtain ⟨q, rfl⟩ : ∃ q : Nat, up = q := ⟨up.toNat, by omega⟩
    have hq : q < ss.length := by dsimp only at hin1; omega
    have hq' : (q : Int) < ss.length := by omega
    obtain ⟨b2, o2, f3, f4⟩ := rd_slot hs hq
    have e3 := (f4 _ (k7.ext hdom)).1 Try.prog _ ta_cap_Cap ts_cap_Cap
    have hqq := slAt_nat hq
    have r0' := r0
    rw [f3] at r0'
    rw [f1] at f3
    simp only [Value.slice.injEq, Option.some.injEq, Addr.mk.injEq] at f3
    obtain ⟨⟨rfl, rfl, _⟩, _⟩ := f3
    generalize hy : ss[q] = y at *
    obtain ⟨ty', th', ri', ba', up'⟩ := y
    have k8 : Kept g n (gset (gset g' n' (some (.row [.int .i64 ty, .int .i64 th, .int .i64 ri, .int .i64 ba, .int .i64 q] true))) (n' + 1) (some (.row [.int .i64 ty', .int .i64 th', .int .i64 ri', .int .i64 ba'] true))) (n' + 1 + 1) := (by repeat first | exact kp | refine Kept.new ?_ _ | refine Kept.drop ?_ (by omega) | refine Kept.put ?_ (by omega) (by omega) _ | refine Kept.skip ?_)
    simp (maxSteps := 1000000) (disch := first | assumption | omega | rfl | decide | simp only [fitsR, Bool.and_self]) [↓rules, rules, ↓rulesDp, rulesDq, lit_u64, Int.ofNat_inj, stops, rc_state_State_allowedl0, q_int, q_bool, q_geo_Geo, q_S_state_Slot, q_S_thing_Thing, q_state_State, q_cap_Cap, q_state_Slot, q_uint64, q_A4_uint64, q_thing_Thing, f1, hlt, e1, cu, r0', hq', e3]
    refine ⟨by omega, by omega, ?_⟩
    refine rcall_quiet rfl (cap_Less ty th ri ba ty' th' ri' ba' _ _) ?_
    cases cl : lessC ty th ri ba ty' th' ri' ba'
    · by_cases c1 : ty' = 1
      · by_cases c2 : th = th'
        · rw [bad (by simp [alOk, hqq, cl, c1, c2]; subst c1 c2; simp [cl])]
          simp (maxSteps := 1000000) (disch := first | assumption | omega | rfl | decide | simp only [fitsR, Bool.and_self]) [↓rules, rules, ↓rulesDp, rulesDq, lit_u64, Int.ofNat_inj, stops, q_int, q_bool, q_geo_Geo, q_S_state_Slot, q_S_thing_Thing, q_state_State, q_cap_Cap, q_state_Slot, q_uint64, q_A4_uint64, q_thing_Thing, c1, c2]
          exact done_q hdom (by repeat first | exact kp | refine Kept.new ?_ _ | refine Kept.drop ?_ (by omega) | refine Kept.put ?_ (by omega) (by omega) _ | refine Kept.skip ?_) rfl rfl
        · simp (maxSteps := 1000000) (disch := first | assumption | omega | rfl | decide | simp only [fitsR, Bool.and_self]) [↓rules, rules, ↓rulesDp, rulesDq, lit_u64, Int.ofNat_inj, stops, q_int, q_bool, q_geo_Geo, q_S_state_Slot, q_S_thing_Thing, q_state_State, q_cap_Cap, q_state_Slot, q_uint64, q_A4_uint64, q_thing_Thing, c1, c2, w1]
          exact ⟨ss.length - (i + 1), by omega, i + 1, rfl, by omega, (by repeat first | exact kp | refine Kept.new ?_ _ | refine Kept.drop ?_ (by omega) | refine Kept.put ?_ (by omega) (by omega) _ | refine Kept.skip ?_), by omega, by rw [f1] at r0; exact r0, good (by simp only [alOk, hqq, cl, Bool.false_or]; simp [c1, c2]), by omega⟩
      · rw [bad (by simp [alOk, hqq, cl, c1])]
        simp (maxSteps := 1000000) (disch := first | assumption | omega | rfl | decide | simp only [fitsR, Bool.and_self]) [↓rules, rules, ↓rulesDp, rulesDq, lit_u64, Int.ofNat_inj, stops, q_int, q_bool, q_geo_Geo, q_S_state_Slot, q_S_thing_Thing, q_state_State, q_cap_Cap, q_state_Slot, q_uint64, q_A4_uint64, q_thing_Thing, c1]
        exact done_q hdom (by repeat first | exact kp | refine Kept.new ?_ _ | refine Kept.drop ?_ (by omega) | refine Kept.put ?_ (by omega) (by omega) _ | refine Kept.skip ?_) rfl rfl
    · simp (maxSteps := 1000000) (disch := first | assumption | omega | rfl | decide | simp only [fitsR, Bool.and_self]) [↓rules, rules, ↓rulesDp, rulesDq, lit_u64, Int.ofNat_inj, stops, q_int, q_bool, q_geo_Geo, q_S_state_Slot, q_S_thing_Thing, q_state_State, q_cap_Cap, q_state_Slot, q_uint64, q_A4_uint64, q_thing_Thing, w1]
      exact ⟨ss.length - (i + 1), by omega, i + 1, rfl, by omega, (by repeat first | exact kp | refine Kept.new ?_ _ | refine Kept.drop ?_ (by omega) | refine Kept.put ?_ (by omega) (by omega) _ | refine Kept.skip ?_), by omega, by rw [f1] at r0; exact r0, good (by simp [alOk, hqq, cl]), by omega⟩
  · exact ⟨0, by simp, by simp, (by repeat first | exact Kept.refl hdom | refine Kept.new ?_ _ | refine Kept.drop ?_ (by omega) | refine Kept.put ?_ (by omega) (by omega) _ | refine Kept.skip ?_), by omega, by simp [gset], by rw [List.drop_zero], by rfl⟩
end Go.Proofs.Ytkcahnefekkfaaa.F13W

namespace Go.Proofs.Ytkcahnefekkfaaa.F13W
open Go Go.Proofs Go.Proofs.YtkcahnefekkfaaaAbs
variable [Base]
set_option maxHeartbeats 8000000
set_option maxRecDepth 100000
/-! ### Each slot has one node -/
def markF (hd : List Bool) (b : Nat) : Nat → Option (List Bool)
  | 0 => some hd
  | k + 1 => (markF hd b k).bind fun h => if h.getD (b + k) true = true then none else some (h.set (b + k) true)
theorem markF_none (hd : List Bool) (b k : Nat) (h : markF hd b k = none) : ∀ j, markF hd b (k + j) = none
  | 0 => h
  | j + 1 => by rw [← Nat.add_assoc, markF, markF_none hd b k h j]; rfl
theorem markF_len (hd : List Bool) (b : Nat) : ∀ (k : Nat) (h : List Bool), markF hd b k = some h → h.length = hd.length
  | 0, h, e => by cases e; rfl
  | k + 1, h, e => by
    rw [markF] at e
    obtain ⟨h0, e1, e2⟩ := Option.bind_eq_some_iff.1 e
    split at e2
    · cases e2
    · cases e2
      rw [List.length_set, markF_len hd b k h0 e1]
def nodeStep (o : Option (List Bool)) (t : Tg) : Option (List Bool) := o.bind fun h => if t.ty = 2 then markF h t.base.toNat (2 ^ t.bits.toNat) else some h
def nodesH (m : Nat) (ts : List Tg) : Option (List Bool) := ts.foldl nodeStep (some (List.replicate m false))
theorem nodesH_none (m : Nat) (ts : List Tg) (k : Nat) (h : nodesH m (ts.take k) = none) : nodesH m ts = none := by
  have e : nodesH m ts = (ts.drop k).foldl nodeStep (nodesH m (ts.take k)) := by
    unfold nodesH
    rw [← List.foldl_append, List.take_append_drop]
  rw [e, h]
  generalize ts.drop k = l
  induction l with
  | nil => rfl
  | cons x l ih => exact ih
theorem nodesH_len (m : Nat) : ∀ (ts : List Tg) (o h : List Bool), ts.foldl nodeStep (some o) = some h → h.length = o.length
  | [], o, h, e => by cases e; rfl
  | t :: ts, o, h, e => by
    rw [List.foldl_cons] at e
    cases e1 : nodeStep (some o) t with
    | none =>
      rw [e1] at e
      have : ∀ l : List Tg, l.foldl nodeStep none = none := fun l => by induction l with | nil => rfl | cons x l ih => exact ih
      rw [this] at e; cases e
    | some o' =>
      rw [e1] at e
      rw [nodesH_len m ts o' h e]
      simp only [nodeStep, Option.bind_some] at e1
      split at e1
      · exact markF_len _ _ _ _ e1
      · cases e1; rfl
def nodesS (ss : List Sl) (ts : List Tg) : Bool := match nodesH ss.length ts with
  | none => false
  | some h => (List.range ss.length).all fun i => h.getD i false || noneS (slAt ss i)
abbrev cB (h : List Bool) : List Value := h.map Value.bool
theorem cB_len (h : List Bool) : (cB h).length = h.length := by simp [cB]
theorem cB_nth (h : List Bool) (k : Nat) (hk : k < h.length) : nth (cB h) k = some (.bool h[k]) := by
  rw [← nth_eq, cB, List.getElem?_map, List.getElem?_eq_getElem hk]; rfl
theorem cB_set (h : List Bool) (k : Nat) (hk : k < h.length) : splice (cB h) k [.bool true] = cB (h.set k true) := by
  rw [splice_one _ _ _ (by rw [cB_len]; exact hk), cB, cB, List.map_set]
theorem zeroB (m : Nat) : zeroRow [.bool false] m = cB (List.replicate m false) := by rw [zeroRow_one]; simp [cB]
theorem gset_eta' {g : AMem} {b : Nat} {o : Option AObj} (h : g b = o) : gset g b o = g := by
  funext i
  unfold gset
  split
  · rename_i e; rw [e, h]
  · rfl
/-- A node's slots, marked. -/
theorem nodes_loop0 {K : RPost} {n m nb : Nat} {VT : Value} {L lt i : Nat} {hd : List Bool} {t : Tg} {G : AMem} (hL : hd.length = L) (hLL : L ≤ 100000) (hnb : n ≤ nb) (hne : nb ≠ m) (hG : G nb = some (.row (cB hd) true)) (hGm : G m = some (.row (cG t) true)) (hb0 : 0 ≤ t.base) (hb1 : t.base ≤ 100000) (hc : t.bits.toNat ≤ 4)
    (hend : ∀ l' h, markF hd t.base.toNat (2 ^ t.bits.toNat) = some h → YtkcahnefekkfaaaAbs.look 1 l' = .pointer (some ⟨n, 0, none⟩) → YtkcahnefekkfaaaAbs.look 3 l' = .slice (some ⟨nb, 0, none⟩) L 1 → YtkcahnefekkfaaaAbs.look 15 l' = VT → YtkcahnefekkfaaaAbs.look 16 l' = .int .i64 lt → YtkcahnefekkfaaaAbs.look 17 l' = .int .i64 i → K (.exit 2) l' (gset G nb (some (.row (cB h) true))) (m + 1))
    (hfail : ∀ l' g', markF hd t.base.toNat (2 ^ t.bits.toNat) = none → (∃ h, g' = gset G nb (some (.row (cB h) true))) → YtkcahnefekkfaaaAbs.look 2 l' = .bool false → K .ret l' g' (m + 1)) :
    rwp Try.prog (fun j => n ≤ j) (RCode.loop [1, 3, 5, 15, 16, 17, 26, 27] rc_state_State_nodesl0) K [(1, .pointer (some ⟨n, 0, none⟩)), (3, .slice (some ⟨nb, 0, none⟩) L 1), (5, .pointer (some ⟨m, 0, none⟩)), (15, VT), (16, .int .i64 lt), (17, .int .i64 i), (26, .int .i64 (2 ^ t.bits.toNat : Nat)), (27, .int .i64 0)] G (m + 1) := by
  have h16 : 2 ^ t.bits.toNat ≤ 16 := Nat.pow_le_pow_right (n := 2) (by omega) hc
  obtain ⟨ty, bits, base, size, used, frm, badge, full, word, d0, d1, d2, d3⟩ := t
  dsimp only at *
  generalize hM : 2 ^ bits.toNat = M at *
  obtain ⟨b, rfl⟩ : ∃ b : Nat, base = b := ⟨base.toNat, by omega⟩
  rw [Int.toNat_natCast] at *
  simp only [cG] at hGm
  refine rwp_loop (fun j l g' n' => ∃ k h, j = M - k ∧ k ≤ M ∧ markF hd b k = some h ∧ g' = gset G nb (some (.row (cB h) true)) ∧ n' = m + 1 ∧ l = [(1, .pointer (some ⟨n, 0, none⟩)), (3, .slice (some ⟨nb, 0, none⟩) L 1), (5, .pointer (some ⟨m, 0, none⟩)), (15, VT), (16, .int .i64 lt), (17, .int .i64 i), (26, .int .i64 M), (27, .int .i64 k)]) ?_ (k := M) ?_
  · rintro j l g' n' ⟨k, h, rfl, hk, hmk, rfl, rfl, rfl⟩
    by_cases hlt : (k : Int) < (M : Int)
    case neg =>
      have : k = M := by omega
      subst this
      simp (maxSteps := 1000000) (disch := first | assumption | omega | rfl | decide | simp only [fitsR, Bool.and_self]) [↓rules, rules, ↓rulesDp, rulesDq, lit_u64, Int.ofNat_inj, stops, rc_state_State_nodesl0, q_int, q_bool, q_geo_Geo, q_S_state_Slot, q_S_thing_Thing, q_state_State, q_cap_Cap, q_state_Slot, q_uint64, q_A4_uint64, q_thing_Thing, q_S_bool, hlt]
      exact hend _ h hmk (by rfl) (by rfl) (by rfl) (by rfl) (by rfl)
    have hhl := markF_len hd b k h hmk
    have hnext : markF hd b (k + 1) = if h.getD (b + k) true = true then none else some (h.set (b + k) true) := by rw [markF, hmk]; rfl
    have hnone : markF hd b (k + 1) = none → markF hd b M = none := fun e => by
      have := markF_none hd b (k + 1) e (M - (k + 1))
      rwa [show k + 1 + (M - (k + 1)) = M by omega] at this
    have w0 : IntKind.i64.wrap ((b : Int) + k) = ((b + k : Nat) : Int) := by rw [wrap_i64 (by omega) (by omega)]; omega
    have w1 : IntKind.i64.wrap ((k : Int) + 1) = ((k + 1 : Nat) : Int) := by rw [wrap_i64 (by omega) (by omega)]; omega
    obtain ⟨p, hp⟩ : ∃ p : Nat, p = b + k := ⟨_, rfl⟩
    rw [← hp] at w0 hnext
    by_cases c1 : (L : Int) ≤ p
    · rw [List.getD_eq_getElem?_getD, List.getElem?_eq_none (by omega), Option.getD_none, if_pos rfl] at hnext
      simp (maxSteps := 1000000) (disch := first | assumption | omega | rfl | decide | simp only [fitsR, Bool.and_self]) [↓rules, rules, ↓rulesDp, rulesDq, lit_u64, Int.ofNat_inj, stops, rc_state_State_nodesl0, q_int, q_bool, q_geo_Geo, q_S_state_Slot, q_S_thing_Thing, q_state_State, q_cap_Cap, q_state_Slot, q_uint64, q_A4_uint64, q_thing_Thing, q_S_bool, hlt, hGm, hne, w0, c1]
      exact hfail _ _ (hnone hnext) ⟨h, rfl⟩ (by rfl)
    · have hpl : p < h.length := by omega
      have hnt := cB_nth h p hpl
      have hst := cB_set h p hpl
      have hcl := cB_len h
      rw [hhl, hL] at hcl
      have c2 : (p : Int) < L := by omega
      have c3 : p + 1 ≤ L := by omega
      rw [List.getD_eq_getElem?_getD, List.getElem?_eq_getElem hpl, Option.getD_some] at hnext
      cases hb : h[p]
      · rw [hb, if_neg (by simp)] at hnext
        rw [hb] at hnt
        generalize cB h = R at *
        simp (maxSteps := 1000000) (disch := first | assumption | omega | rfl | decide | simp only [fitsR, Bool.and_self]) [↓rules, rules, ↓rulesDp, rulesDq, lit_u64, Int.ofNat_inj, stops, rc_state_State_nodesl0, q_int, q_bool, q_geo_Geo, q_S_state_Slot, q_S_thing_Thing, q_state_State, q_cap_Cap, q_state_Slot, q_uint64, q_A4_uint64, q_thing_Thing, q_S_bool, hlt, hGm, hne, w0, c1, c2, c3, hnt, hst, hcl, w1]
        exact ⟨hnb, M - (k + 1), by omega, k + 1, rfl, by omega, _, hnext, by simp [cB, List.map_set], by omega⟩
      · rw [hb, if_pos rfl] at hnext
        rw [hb] at hnt
        simp (maxSteps := 1000000) (disch := first | assumption | omega | rfl | decide | simp only [fitsR, Bool.and_self]) [↓rules, rules, ↓rulesDp, rulesDq, lit_u64, Int.ofNat_inj, stops, rc_state_State_nodesl0, q_int, q_bool, q_geo_Geo, q_S_state_Slot, q_S_thing_Thing, q_state_State, q_cap_Cap, q_state_Slot, q_uint64, q_A4_uint64, q_thing_Thing, q_S_bool, hlt, hGm, hne, w0, c1, c2, hnt]
        exact hfail _ _ (hnone hnext) ⟨h, rfl⟩ (by rfl)
  · exact ⟨0, hd, by simp, by simp, rfl, (gset_eta' hG).symm, rfl, by rfl⟩
end Go.Proofs.Ytkcahnefekkfaaa.F13W

namespace Go.Proofs.Ytkcahnefekkfaaa.F13W
open Go Go.Proofs Go.Proofs.YtkcahnefekkfaaaAbs
variable [Base]
set_option maxHeartbeats 8000000
set_option maxRecDepth 100000
theorem state_nodes (a b c : Int) (VS VT : Value) (ss : List Sl) (ts : List Tg) (g : AMem) (n : Nat) (hl : ss.length ≤ 100000) (hl2 : ts.length ≤ 100000) (hs : rdS g VS ss) (ht : rdG g VT ts) (hb : ∀ t, t ∈ ts → t.ty = 2 → 0 ≤ t.base ∧ t.base ≤ 100000 ∧ 0 ≤ t.bits ∧ t.bits ≤ 4) : FnC Try.prog f_state_State_nodes [sv a b c VS VT] g n (fun _ => False) (.bool (nodesS ss ts)) g n := by
  refine fnC_of_rwp t_state_State_nodes hm rfl fun hdom => ?_
  obtain ⟨xa, xe, hVS⟩ := hs.form
  obtain ⟨ya, ye, hVT⟩ := ht.form
  have hsz : (ss.length : Int) ≤ 70368744177664 := by omega
  have hsz2 : ss.length ≤ 70368744177664 := by omega
  simp (maxSteps := 1000000) (disch := first | assumption | omega | rfl | decide | simp only [fitsR, Bool.and_self]) [↓rules, rules, ↓rulesDp, rulesDq, lit_u64, Int.ofNat_inj, stops, rc_state_State_nodes, q_int, q_bool, q_geo_Geo, q_S_state_Slot, q_S_thing_Thing, q_state_State, q_cap_Cap, q_state_Slot, q_uint64, q_A4_uint64, q_thing_Thing, q_S_bool, hVS, hVT, hsz, hsz2]
  rw [← hVS, ← hVT]
  refine rwp_loop (fun j l g' n' => ∃ i h, j = ts.length - i ∧ i ≤ ts.length ∧ Kept g n g' n' ∧ n + 1 + 1 ≤ n' ∧ g' n = some (rowS a b c VS VT) ∧ g' (n + 1) = some (.row (cB h) true) ∧ nodesH ss.length (ts.take i) = some h ∧ l = [(1, .pointer (some ⟨n, 0, none⟩)), (3, .slice (some ⟨n + 1, 0, none⟩) ss.length 1), (15, VT), (16, .int .i64 ts.length), (17, .int .i64 i)]) ?_ (k := ts.length) ?_
  · rintro j l g' n' ⟨i, h, rfl, hi, kp, hn', r0, r1, hh, rfl⟩
    by_cases hlt : (i : Int) < (ts.length : Int)
    case neg =>
      have : i = ts.length := by omega
      subst this
      rw [List.take_length] at hh
      have hhl : h.length = ss.length := by rw [nodesH_len ss.length ts _ h hh, List.length_replicate]
      have hN : nodesS ss ts = (List.range ss.length).all fun i => h.getD i false || noneS (slAt ss i) := by unfold nodesS; rw [hh]
      rw [hVS] at r0
      simp (maxSteps := 1000000) (disch := first | assumption | omega | rfl | decide | simp only [fitsR, Bool.and_self]) [↓rules, rules, ↓rulesDp, rulesDq, lit_u64, Int.ofNat_inj, stops, rc_state_State_nodesl1, q_int, q_bool, q_geo_Geo, q_S_state_Slot, q_S_thing_Thing, q_state_State, q_cap_Cap, q_state_Slot, q_uint64, q_A4_uint64, q_thing_Thing, q_S_bool, hlt, r0]
      rw [← hVS]
      refine rwp_loop (fun j l g2 n2 => ∃ i, j = ss.length - i ∧ i ≤ ss.length ∧ Kept g n g2 n2 ∧ n + 1 + 1 ≤ n2 ∧ g2 (n + 1) = some (.row (cB h) true) ∧ (List.range i).all (fun i => h.getD i false || noneS (slAt ss i)) = true ∧ l = [(3, .slice (some ⟨n + 1, 0, none⟩) ss.length 1), (50, VS), (51, .int .i64 ss.length), (52, .int .i64 i)]) ?_ (k := ss.length) ?_
      · rintro j l g2 n2 ⟨i, rfl, hi, k2, hn2, t1, hr, rfl⟩
        by_cases hlt : (i : Int) < (ss.length : Int)
        case neg =>
          have : i = ss.length := by omega
          subst this
          simp (maxSteps := 1000000) (disch := first | assumption | omega | rfl | decide | simp only [fitsR, Bool.and_self]) [↓rules, rules, ↓rulesDp, rulesDq, lit_u64, Int.ofNat_inj, stops, rc_state_State_nodesl2, q_int, q_bool, q_geo_Geo, q_S_state_Slot, q_S_thing_Thing, q_state_State, q_cap_Cap, q_state_Slot, q_uint64, q_A4_uint64, q_thing_Thing, q_S_bool, hlt]
          refine done_q hdom k2 rfl ?_
          rw [hN, hr]; rfl
        have hlt1 : i < ss.length := by omega
        obtain ⟨b1, o1, f1, _, f2⟩ := rd_big hs cS_len hlt1
        have e1 := f2 g2 (k2.ext hdom) Try.prog _ ta_state_Slot ts_state_Slot
        simp only [cS] at e1
        have w1 : IntKind.i64.wrap ((i : Int) + 1) = ((i + 1 : Nat) : Int) := by rw [wrap_i64 (by omega) (by omega)]; omega
        have hsx := slAt_nat hlt1
        have hih : i < h.length := by omega
        have hnt := cB_nth h i hih
        have hgd : h.getD i false = h[i] := by rw [List.getD_eq_getElem?_getD, List.getElem?_eq_getElem hih]; rfl
        have bad : (h.getD i false || noneS (slAt ss i)) = false → nodesS ss ts = false := fun hb' => by
          rw [hN, List.all_eq_false]
          exact ⟨i, List.mem_range.2 hlt1, by simpa using hb'⟩
        have good : (h.getD i false || noneS (slAt ss i)) = true → (List.range (i + 1)).all (fun i => h.getD i false || noneS (slAt ss i)) = true := fun hb' => by
          rw [List.range_succ, List.all_append, hr, Bool.true_and, List.all_cons, hb']; rfl
        rw [hgd, hsx] at bad good
        generalize hx : ss[i] = x at *
        obtain ⟨ty, th, ri, ba, up⟩ := x
        cases hb' : h[i]
        · rw [hb'] at hnt bad good
          simp (maxSteps := 1000000) (disch := first | assumption | omega | rfl | decide | simp only [fitsR, Bool.and_self]) [↓rules, rules, ↓rulesDp, rulesDq, lit_u64, Int.ofNat_inj, stops, rc_state_State_nodesl2, q_int, q_bool, q_geo_Geo, q_S_state_Slot, q_S_thing_Thing, q_state_State, q_cap_Cap, q_state_Slot, q_uint64, q_A4_uint64, q_thing_Thing, q_S_bool, f1, hlt, e1, t1, hnt]
          rw [← f1]
          refine ⟨by omega, ?_⟩
          refine rcall_quiet rfl (cap_None ty th ri ba _ _) ?_
          cases cn : noneC ty th ri ba
          · rw [bad (by simp [noneS, cn])]
            simp (maxSteps := 1000000) (disch := first | assumption | omega | rfl | decide | simp only [fitsR, Bool.and_self]) [↓rules, rules, ↓rulesDp, rulesDq, lit_u64, Int.ofNat_inj, stops, q_int, q_bool, q_geo_Geo, q_S_state_Slot, q_S_thing_Thing, q_state_State, q_cap_Cap, q_state_Slot, q_uint64, q_A4_uint64, q_thing_Thing, q_S_bool]
            exact done_q hdom (by repeat first | exact k2 | refine Kept.new ?_ _ | refine Kept.drop ?_ (by omega) | refine Kept.put ?_ (by omega) (by omega) _ | refine Kept.skip ?_) rfl rfl
          · have gg := good (by simp [noneS, cn])
            simp (maxSteps := 1000000) (disch := first | assumption | omega | rfl | decide | simp only [fitsR, Bool.and_self]) [↓rules, rules, ↓rulesDp, rulesDq, lit_u64, Int.ofNat_inj, stops, q_int, q_bool, q_geo_Geo, q_S_state_Slot, q_S_thing_Thing, q_state_State, q_cap_Cap, q_state_Slot, q_uint64, q_A4_uint64, q_thing_Thing, q_S_bool, w1]
            exact ⟨ss.length - (i + 1), by omega, i + 1, rfl, by omega, (by repeat first | exact k2 | refine Kept.new ?_ _ | refine Kept.drop ?_ (by omega) | refine Kept.put ?_ (by omega) (by omega) _ | refine Kept.skip ?_), by omega, t1, fun x hx => by simpa using List.all_eq_true.1 gg x (List.mem_range.2 hx), by omega⟩
        · rw [hb'] at hnt bad good
          have gg := good (by simp)
          simp (maxSteps := 1000000) (disch := first | assumption | omega | rfl | decide | simp only [fitsR, Bool.and_self]) [↓rules, rules, ↓rulesDp, rulesDq, lit_u64, Int.ofNat_inj, stops, rc_state_State_nodesl2, q_int, q_bool, q_geo_Geo, q_S_state_Slot, q_S_thing_Thing, q_state_State, q_cap_Cap, q_state_Slot, q_uint64, q_A4_uint64, q_thing_Thing, q_S_bool, f1, hlt, e1, t1, hnt, w1]
          exact ⟨by omega, ss.length - (i + 1), by omega, i + 1, rfl, by omega, (by repeat first | exact k2 | refine Kept.new ?_ _ | refine Kept.drop ?_ (by omega) | refine Kept.put ?_ (by omega) (by omega) _ | refine Kept.skip ?_), by omega, fun x hx => by simpa using List.all_eq_true.1 gg x (List.mem_range.2 hx), by omega⟩
      · exact ⟨0, by simp, by simp, kp, hn', r1, rfl, by rfl⟩
    have hlt1 : i < ts.length := by omega
    obtain ⟨b1, o1, f1, _, f2⟩ := rd_big ht cG_len hlt1
    have e1 := f2 g' (kp.ext hdom) Try.prog _ ta_thing_Thing ts_thing_Thing
    have w1 : IntKind.i64.wrap ((i : Int) + 1) = ((i + 1 : Nat) : Int) := by rw [wrap_i64 (by omega) (by omega)]; omega
    have hhl : h.length = ss.length := by rw [nodesH_len ss.length (ts.take i) _ h hh, List.length_replicate]
    have hstep : nodesH ss.length (ts.take (i + 1)) = nodeStep (some h) ts[i] := by
      unfold nodesH at hh ⊢
      rw [tk_snoc ts i hlt1, List.foldl_append, hh]; rfl
    have hbi := hb _ (List.getElem_mem hlt1)
    have hck : (cG ts[i]).all cellOk = true := rfl
    have k8 := kp.new (.row (cG ts[i]) true)
    by_cases c2 : ts[i].ty = 2
    case neg =>
      simp only [nodeStep, Option.bind_some, if_neg c2] at hstep
      simp only [cG] at e1
      simp (maxSteps := 1000000) (disch := first | assumption | omega | rfl | decide | simp only [fitsR, Bool.and_self]) [↓rules, rules, ↓rulesDp, rulesDq, lit_u64, Int.ofNat_inj, stops, rc_state_State_nodesl1, q_int, q_bool, q_geo_Geo, q_S_state_Slot, q_S_thing_Thing, q_state_State, q_cap_Cap, q_state_Slot, q_uint64, q_A4_uint64, q_thing_Thing, q_S_bool, f1, hlt, e1, c2, w1]
      exact ⟨by omega, ts.length - (i + 1), by omega, i + 1, rfl, by omega, (by repeat first | exact kp | refine Kept.new ?_ _ | refine Kept.drop ?_ (by omega) | refine Kept.put ?_ (by omega) (by omega) _ | refine Kept.skip ?_), by omega, by rw [← f1]; exact r0, h, r1, hstep, by omega⟩
    obtain ⟨p0, p1, p2, p3⟩ := hbi c2
    simp only [nodeStep, Option.bind_some, if_pos c2] at hstep
    have hshl : IntKind.i64.wrap (1 * 2 ^ (min ts[i].bits.toNat IntKind.i64.bits)) = ((2 ^ ts[i].bits.toNat : Nat) : Int) := by
      obtain ⟨z, hz⟩ : ∃ z : Nat, ts[i].bits = z := ⟨ts[i].bits.toNat, by omega⟩
      rw [hz]
      have : z ≤ 4 := by omega
      match z, this with
      | 0, _ => rfl
      | 1, _ => rfl
      | 2, _ => rfl
      | 3, _ => rfl
      | 4, _ => rfl
    have hsl := fun (t : TypeId) (xo yo : Operand) => bin_shl (P := Try.prog) (t := t) (xo := xo) (yo := yo) (k := .i64) (k' := .i64) (a := 1) p2
    simp only [hshl] at hsl
    have e1' := e1
    simp only [cG] at e1'
    simp (maxSteps := 1000000) (disch := first | assumption | omega | rfl | decide | simp only [fitsR, Bool.and_self]) [↓rules, rules, ↓rulesDp, rulesDq, lit_u64, Int.ofNat_inj, stops, rc_state_State_nodesl1, q_int, q_bool, q_geo_Geo, q_S_state_Slot, q_S_thing_Thing, q_state_State, q_cap_Cap, q_state_Slot, q_uint64, q_A4_uint64, q_thing_Thing, q_S_bool, f1, hlt, e1', c2, hsl]
    rw [← f1]
    refine ⟨by omega, ?_⟩
    have hbadN : markF h ts[i].base.toNat (2 ^ ts[i].bits.toNat) = none → nodesS ss ts = false := fun hm => by
      unfold nodesS
      rw [nodesH_none ss.length ts (i + 1) (by rw [hstep]; exact hm)]
    refine nodes_loop0 (t := ts[i]) (hd := h) (nb := n + 1) (m := n') hhl hl (by omega) (by omega) (by rw [gset, if_neg (by omega)]; exact r1) (by simp [gset, cG, c2]) p0 p1 (by omega) (fun l' h' hm z1 z3 z15 z16 z17 => ?_) (fun l' g'' hm ⟨h'', hg⟩ z2 => ?_)
    · simp (maxSteps := 1000000) (disch := first | assumption | omega | rfl | decide | simp only [fitsR, Bool.and_self]) [↓rules, rules, ↓rulesDp, rulesDq, lit_u64, Int.ofNat_inj, stops, q_int, q_bool, q_geo_Geo, q_S_state_Slot, q_S_thing_Thing, q_state_State, q_cap_Cap, q_state_Slot, q_uint64, q_A4_uint64, q_thing_Thing, q_S_bool, z1, z3, z15, z16, z17, w1]
      refine ⟨ts.length - (i + 1), by omega, i + 1, rfl, by omega, (by repeat first | exact kp | refine Kept.new ?_ _ | refine Kept.drop ?_ (by omega) | refine Kept.put ?_ (by omega) (by omega) _ | refine Kept.skip ?_), by omega, r0, h', by simp [gset], by rw [hstep]; exact hm, by omega⟩
    · subst hg
      rw [hbadN hm]
      refine done_q hdom (by repeat first | exact kp | refine Kept.new ?_ _ | refine Kept.drop ?_ (by omega) | refine Kept.put ?_ (by omega) (by omega) _ | refine Kept.skip ?_) rfl ?_
      simp (maxSteps := 1000000) (disch := first | assumption | omega | rfl | decide | simp only [fitsR, Bool.and_self]) [↓rules, rules, ↓rulesDp, rulesDq, lit_u64, Int.ofNat_inj, stops, aResults, aRes, z2]
  · exact ⟨0, List.replicate ss.length false, by simp, by simp, (by repeat first | exact Kept.refl hdom | refine Kept.new ?_ _ | refine Kept.drop ?_ (by omega) | refine Kept.put ?_ (by omega) (by omega) _ | refine Kept.skip ?_), by omega, by simp [gset], by simp [gset, cB], by simp [nodesH], by rfl⟩
end Go.Proofs.Ytkcahnefekkfaaa.F13W

namespace Go.Proofs.Ytkcahnefekkfaaa.F13W
open Go Go.Proofs Go.Proofs.YtkcahnefekkfaaaAbs
variable [Base]
set_option maxHeartbeats 8000000
set_option maxRecDepth 100000
/-! ### Whose a slot is -/
def hasS (t : Tg) (s : Int) : Bool := decide (t.ty = 2) && (decide (t.base ≤ s) && decide (s < t.base + (2 ^ t.bits.toNat : Nat)))
/-- A node's numbers may be so. -/
def nodeIn (t : Tg) : Prop := t.ty = 2 → 0 ≤ t.base ∧ t.base ≤ 100000 ∧ 0 ≤ t.bits ∧ t.bits ≤ 4
theorem shl_bits {b : Int} (p2 : 0 ≤ b) (p3 : b ≤ 4) : IntKind.i64.wrap (1 * 2 ^ (min b.toNat IntKind.i64.bits)) = ((2 ^ b.toNat : Nat) : Int) := by
  obtain ⟨z, rfl⟩ : ∃ z : Nat, b = z := ⟨b.toNat, by omega⟩
  have : z ≤ 4 := by omega
  match z, this with
  | 0, _ => rfl
  | 1, _ => rfl
  | 2, _ => rfl
  | 3, _ => rfl
  | 4, _ => rfl
theorem state_has (t : Tg) (s : Int) (g : AMem) (n : Nat) (hb : nodeIn t) : FnC Try.prog f_state_has [.agg (cG t).toArray, .int .i64 s] g n (fun _ => False) (.bool (hasS t s)) g n := by
  refine fnC_of_rwp t_state_has hm rfl fun hdom => ?_
  have hk := fun (h2 : t.ty = 2) => (hb h2)
  have hsl := fun (h2 : t.ty = 2) (ty : TypeId) (xo yo : Operand) => bin_shl (P := Try.prog) (t := ty) (xo := xo) (yo := yo) (k := .i64) (k' := .i64) (a := 1) (hb h2).2.2.1
  obtain ⟨ty, bits, base, size, used, frm, badge, full, word, d0, d1, d2, d3⟩ := t
  simp only [cG]
  dsimp only at *
  unfold hasS
  dsimp only
  by_cases c1 : ty = 2
  case neg =>
    rw [decide_eq_false c1, Bool.false_and]
    simp (maxSteps := 1000000) (disch := first | assumption | omega | rfl | decide | simp only [fitsR, Bool.and_self]) [↓rules, rules, ↓rulesDp, rulesDq, lit_u64, Int.ofNat_inj, stops, rc_state_has, q_int, q_bool, q_uint64, q_A4_uint64, q_thing_Thing, c1]
    exact done_q hdom (by repeat first | exact Kept.refl hdom | refine Kept.new ?_ _ | refine Kept.drop ?_ (by omega) | refine Kept.put ?_ (by omega) (by omega) _ | refine Kept.skip ?_) rfl rfl
  rw [decide_eq_true c1, Bool.true_and]
  obtain ⟨p0, p1, p2, p3⟩ := hk c1
  have hs2 := hsl c1
  rw [shl_bits p2 p3] at hs2; clear hsl
  subst c1
  by_cases c2 : base ≤ s
  case neg =>
    rw [decide_eq_false c2, Bool.false_and]
    simp (maxSteps := 1000000) (disch := first | assumption | omega | rfl | decide | simp only [fitsR, Bool.and_self]) [↓rules, rules, ↓rulesDp, rulesDq, lit_u64, Int.ofNat_inj, stops, rc_state_has, q_int, q_bool, q_uint64, q_A4_uint64, q_thing_Thing, c2]
    exact done_q hdom (by repeat first | exact Kept.refl hdom | refine Kept.new ?_ _ | refine Kept.drop ?_ (by omega) | refine Kept.put ?_ (by omega) (by omega) _ | refine Kept.skip ?_) rfl rfl
  rw [decide_eq_true c2, Bool.true_and]
  obtain ⟨M, hM⟩ : ∃ M : Nat, M = 2 ^ bits.toNat := ⟨_, rfl⟩
  have h16 : M ≤ 16 := by rw [hM]; exact Nat.pow_le_pow_right (n := 2) (j := 4) (by omega) (by omega)
  rw [← hM] at hs2 ⊢
  have w0 : IntKind.i64.wrap (base + (M : Int)) = base + M := wrap_i64 (by omega) (by omega)
  simp (maxSteps := 1000000) (disch := first | assumption | omega | rfl | decide | simp only [fitsR, Bool.and_self]) [↓rules, rules, ↓rulesDp, rulesDq, lit_u64, Int.ofNat_inj, stops, rc_state_has, q_int, q_bool, q_uint64, q_A4_uint64, q_thing_Thing, c2, hs2, w0]
  exact done_q hdom (by repeat first | exact Kept.refl hdom | refine Kept.new ?_ _ | refine Kept.drop ?_ (by omega) | refine Kept.put ?_ (by omega) (by omega) _ | refine Kept.skip ?_) rfl rfl
theorem owner_fn (t : Tg) (s : Int) (p : Nat) (g : AMem) (n : Nat) (hp : g p = some (.row [.int .i64 s] true)) (hpn : p < n) (hb : nodeIn t) : FnC Try.prog f_state_State_owner_1 [.agg (cG t).toArray, .pointer (some ⟨p, 0, none⟩)] g n (fun _ => False) (.bool (hasS t s)) g n := by
  refine fnC_of_rwp t_state_State_owner_1 hm rfl fun hdom => ?_
  have x : p ≠ n := by omega
  have hcg : cG t = cG t := rfl
  have key : (cG t).toArray = #[.int .i64 t.ty, .int .i64 t.bits, .int .i64 t.base, .int .i64 t.size, .int .i64 t.used, .int .i64 t.frm, .int .i64 t.badge, .bool t.full, U t.word, U t.d0, U t.d1, U t.d2, U t.d3] := rfl
  rw [key]
  simp (maxSteps := 1000000) (disch := first | assumption | omega | rfl | decide | simp only [fitsR, Bool.and_self]) [↓rules, rules, ↓rulesDp, rulesDq, lit_u64, Int.ofNat_inj, stops, rc_state_State_owner_1, q_int, q_bool, q_uint64, q_A4_uint64, q_thing_Thing, hp, x]
  rw [← key]
  refine rcall_quiet rfl (state_has t s _ _ hb) ?_
  simp (maxSteps := 1000000) (disch := first | assumption | omega | rfl | decide | simp only [fitsR, Bool.and_self]) [↓rules, rules, ↓rulesDp, rulesDq, lit_u64, Int.ofNat_inj, stops, q_int, q_bool, q_uint64, q_A4_uint64, q_thing_Thing]
  exact done_q hdom (by repeat first | exact Kept.refl hdom | refine Kept.new ?_ _ | refine Kept.drop ?_ (by omega) | refine Kept.put ?_ (by omega) (by omega) _ | refine Kept.skip ?_) rfl rfl
def idxT (p : Tg → Bool) : List Tg → Int → Int
  | [], _ => -1
  | x :: r, i => if p x = true then i else idxT p r (i + 1)
theorem idxT_lt (p : Tg → Bool) : ∀ (l : List Tg) (i : Int), 0 ≤ i → idxT p l i < i + l.length ∧ -1 ≤ idxT p l i
  | [], i, h => by simp [idxT]; omega
  | x :: r, i, h => by
    unfold idxT
    have := idxT_lt p r (i + 1) (by omega)
    split
    · simp; omega
    · simp only [List.length_cons]; omega
theorem IndexFuncT (va : Value) (xs : List Tg) (p : Tg → Bool) (k : FuncId) (cap : Value) (hk : goFn Try.prog k = true) (g : AMem) (n : Nat) (hp : ∀ x, x ∈ xs → FnC Try.prog k [.agg (cG x).toArray, cap] g n (fun _ => False) (.bool (p x)) g n) (hl : xs.length ≤ 100000) (ha : rdG g va xs) :
    FnC Try.prog f_slices_IndexFunc_S_thing_Thing_thing_Thing [va, .func (.func k) #[] #[cap]] g n (fun _ => False) (.int .i64 (idxT p xs 0)) g n := by
  refine fnC_of_rwp t_slices_IndexFunc_S_thing_Thing_thing_Thing hm rfl fun hdom => ?_
  obtain ⟨a, ea, hva⟩ := ha.form
  simp (maxSteps := 1000000) (disch := first | assumption | omega | rfl | decide | simp only [fitsR, Bool.and_self]) [↓rules, rules, ↓rulesDp, rulesDq, lit_u64, Int.ofNat_inj, stops, rc_slices_IndexFunc_S_thing_Thing_thing_Thing, q_int, q_bool, q_S_thing_Thing, q_uint64, q_A4_uint64, q_thing_Thing, hva]
  rw [← hva]
  refine rwp_loop (fun j l g' n' => ∃ i, j = xs.length - i ∧ i ≤ xs.length ∧ g' = g ∧ n' = n ∧ idxT p xs 0 = idxT p (xs.drop i) i ∧ l = [(0, va), (1, .func (.func k) #[] #[cap]), (7, .int .i64 xs.length), (8, .int .i64 i)]) ?_ (k := xs.length) ?_
  · rintro j l g' n' ⟨i, rfl, hi, rfl, rfl, he, rfl⟩
    by_cases hlt : (i : Int) < (xs.length : Int)
    · have hlt1 : i < xs.length := by omega
      obtain ⟨b1, o1, h1, _, h2⟩ := rd_big ha cG_len hlt1
      have e1 := h2 g' (Ext.refl _) Try.prog _ ta_thing_Thing ts_thing_Thing
      rw [List.drop_eq_getElem_cons hlt1, idxT] at he
      simp (maxSteps := 1000000) (disch := first | assumption | omega | rfl | decide | simp only [fitsR, Bool.and_self]) [↓rules, rules, ↓rulesDp, rulesDq, lit_u64, Int.ofNat_inj, stops, rc_slices_IndexFunc_S_thing_Thing_thing_Thingl0, q_int, q_bool, q_S_thing_Thing, q_uint64, q_A4_uint64, q_thing_Thing, hlt, hlt1, h1, e1]
      refine rcall_quiet hk (hp _ (List.getElem_mem hlt1)) ?_
      have w1 : IntKind.i64.wrap ((i : Int) + 1) = ((i + 1 : Nat) : Int) := by rw [wrap_i64 (by omega) (by omega)]; omega
      cases c : p xs[i]
      · rw [c, if_neg (by simp)] at he
        simp (maxSteps := 1000000) (disch := first | assumption | omega | rfl | decide | simp only [fitsR, Bool.and_self]) [↓rules, rules, ↓rulesDp, rulesDq, lit_u64, Int.ofNat_inj, stops, q_int, q_bool, q_S_thing_Thing, q_uint64, q_A4_uint64, q_thing_Thing, w1]
        exact ⟨xs.length - (i + 1), by omega, i + 1, rfl, by omega, he, by omega⟩
      · rw [c, if_pos rfl] at he
        simp (maxSteps := 1000000) (disch := first | assumption | omega | rfl | decide | simp only [fitsR, Bool.and_self]) [↓rules, rules, ↓rulesDp, rulesDq, lit_u64, Int.ofNat_inj, stops, q_int, q_bool, q_S_thing_Thing, q_uint64, q_A4_uint64, q_thing_Thing]
        refine done_q hdom (by repeat first | exact Kept.refl hdom | refine Kept.new ?_ _ | refine Kept.drop ?_ (by omega) | refine Kept.put ?_ (by omega) (by omega) _ | refine Kept.skip ?_) rfl ?_
        rw [he]; rfl
    · have : i = xs.length := by omega
      subst this
      rw [List.drop_length] at he
      simp (maxSteps := 1000000) (disch := first | assumption | omega | rfl | decide | simp only [fitsR, Bool.and_self]) [↓rules, rules, ↓rulesDp, rulesDq, lit_u64, Int.ofNat_inj, stops, rc_slices_IndexFunc_S_thing_Thing_thing_Thingl0, q_int, q_bool, q_S_thing_Thing, q_uint64, q_A4_uint64, q_thing_Thing, hlt]
      refine done_q hdom (by repeat first | exact Kept.refl hdom | refine Kept.new ?_ _ | refine Kept.drop ?_ (by omega) | refine Kept.put ?_ (by omega) (by omega) _ | refine Kept.skip ?_) rfl ?_
      rw [he]; rfl
  · exact ⟨0, by simp, by simp, rfl, rfl, by simp, by rfl⟩
def ownerS (ts : List Tg) (s : Int) : Int := idxT (fun t => hasS t s) ts 0
theorem state_owner (a b c : Int) (VS VT : Value) (ts : List Tg) (s : Int) (g : AMem) (n : Nat) (hl : ts.length ≤ 100000) (ht : rdG g VT ts) (hb : ∀ t, t ∈ ts → nodeIn t) : FnC Try.prog f_state_State_owner [sv a b c VS VT, .int .i64 s] g n (fun _ => False) (.int .i64 (ownerS ts s)) g n := by
  refine fnC_of_rwp t_state_State_owner hm rfl fun hdom => ?_
  have k1 : Kept g n (gset (gset g n (some (rowS a b c VS VT))) (n + 1) (some (.row [.int .i64 s] true))) (n + 1 + 1) := (by repeat first | exact Kept.refl hdom | refine Kept.new ?_ _ | refine Kept.drop ?_ (by omega) | refine Kept.put ?_ (by omega) (by omega) _ | refine Kept.skip ?_)
  simp (maxSteps := 1000000) (disch := first | assumption | omega | rfl | decide | simp only [fitsR, Bool.and_self]) [↓rules, rules, ↓rulesDp, rulesDq, lit_u64, Int.ofNat_inj, stops, rc_state_State_owner, q_int, q_bool, q_geo_Geo, q_S_state_Slot, q_S_thing_Thing, q_state_State, q_cap_Cap, q_state_Slot, q_uint64, q_A4_uint64, q_thing_Thing]
  refine rcall_quiet rfl (IndexFuncT VT ts (fun t => hasS t s) _ _ (by kernel_rfl) _ _ (fun x hx => owner_fn x s (n + 1) _ _ (by simp [gset]) (by omega) (hb x hx)) hl (ht.ext (k1.ext hdom))) ?_
  simp (maxSteps := 1000000) (disch := first | assumption | omega | rfl | decide | simp only [fitsR, Bool.and_self]) [↓rules, rules, ↓rulesDp, rulesDq, lit_u64, Int.ofNat_inj, stops, q_int, q_bool, q_geo_Geo, q_S_state_Slot, q_S_thing_Thing, q_state_State, q_cap_Cap, q_state_Slot, q_uint64, q_A4_uint64, q_thing_Thing]
  exact done_q hdom k1 rfl rfl
/-! ### The map of nodes -/
abbrev rowM (l : List Int) : AObj := .map (l.map fun i => (Value.int .i64 i, Value.bool true))
theorem findM (a : Int) : ∀ (l : List Int) (i : Nat), (a ∈ l → ∃ j, aFindK .i64 a (l.map fun i => (Value.int .i64 i, Value.bool true)) i = some (some (j, .bool true))) ∧ (a ∉ l → aFindK .i64 a (l.map fun i => (Value.int .i64 i, Value.bool true)) i = some none)
  | [], i => ⟨fun h => (nomatch h), fun _ => rfl⟩
  | x :: l, i => by
    obtain ⟨h1, h2⟩ := findM a l (i + 1)
    simp only [List.map_cons, aFindK, if_true]
    by_cases c : a = x
    · rw [if_pos c]
      exact ⟨fun _ => ⟨i, rfl⟩, fun h => absurd (by rw [c]; exact List.mem_cons_self) h⟩
    · rw [if_neg c]
      exact ⟨fun h => h1 ((List.mem_cons.1 h).resolve_left c), fun h => h2 fun h' => h (List.mem_cons_of_mem _ h')⟩
theorem lookM {g : AMem} {r : Nat} {l : List Int} (h : g r = some (rowM l)) (i : Int) : aLookup Try.prog g T_map_int_bool (.map (some r)) (.int .i64 i) false = some (.bool (decide (i ∈ l))) := by
  have hi : intKey Try.prog 3 (.int .i64 i) = some (.i64, i) := by unfold intKey; rw [show Try.prog.underlying 3 = some (.int .i64) from tu_int]
  unfold aLookup
  rw [tu_map_int_bool]
  simp only [hi, mapHas, h]
  by_cases c : i ∈ l
  · obtain ⟨j, hj⟩ := (findM i l 0).1 c
    rw [hj, decide_eq_true c]; rfl
  · rw [(findM i l 0).2 c, decide_eq_false c]
    simp only [show tzero Try.prog 4 = some (.bool false) from tv_bool]; rfl
theorem putM {g : AMem} {r : Nat} {l : List Int} (h : g r = some (rowM l)) {i : Int} (hn : i ∉ l) : aMapPut Try.prog g T_map_int_bool (.map (some r)) (.int .i64 i) (.bool true) = some (.put r (rowM (l ++ [i]))) := by
  have hi : intKey Try.prog 3 (.int .i64 i) = some (.i64, i) := by unfold intKey; rw [show Try.prog.underlying 3 = some (.int .i64) from tu_int]
  unfold aMapPut
  rw [tu_map_int_bool]
  simp only [hi, h, (findM i l 0).2 hn]
  simp [rowM]
end Go.Proofs.Ytkcahnefekkfaaa.F13W

namespace Go.Proofs.Ytkcahnefekkfaaa.F13W
open Go Go.Proofs Go.Proofs.YtkcahnefekkfaaaAbs
variable [Base]
set_option maxHeartbeats 8000000
set_option maxRecDepth 100000
/-! ### Nodes inside nodes -/
section
variable {P : Program} {may : Nat → Prop} {dst : Option Tmp} {fl : Bool} {ty : TypeId} {K : RL → AMem → Nat → Prop} {l : RL} {g : AMem} {n : Nat}
theorem rdo_lookup (t : TypeId) (x i : Operand) (ok : Bool) : rdo P may dst fl ty (.lookup t x i ok) K l g n = rval dst K l g n (aLookup P g t (aEval (regs l) x) (aEval (regs l) i) ok) := by
  simp only [rdo, aCall, aOp, reff_map]
theorem rdo_mapUpdate (t : TypeId) (m i v : Operand) : rdo P may dst fl ty (.mapUpdate t m i v) K l g n = reff may dst fl K l g n ((aMapPut P g t (aEval (regs l) m) (aEval (regs l) i) (aEval (regs l) v)).map fun ε => (undef, ε)) := rfl
theorem rdo_makeMap (t : TypeId) : rdo P may dst fl ty (.makeMap t none) K l g n = (fl = true ∧ K (push dst (.map (some n)) l) (gset g n (some (.map []))) (n + 1)) := rfl
end
theorem holes : ∀ (m : Nat) (l : List Int), l.Nodup → (∀ x, x ∈ l → 0 ≤ x ∧ x < m) → l.length ≤ m
  | 0, l, _, h => by
    cases l with
    | nil => simp
    | cons x l => have := h x List.mem_cons_self; omega
  | m + 1, l, hn, h => by
    by_cases c : (m : Int) ∈ l
    · have h1 := holes m (l.erase (m : Int)) (hn.erase _) fun x hx => by
        have h2 := (hn.mem_erase_iff).1 hx
        have h3 := h x h2.2
        have h4 := h2.1
        omega
      rw [List.length_erase_of_mem c] at h1
      have := List.length_pos_of_mem c
      omega
    · have h1 := holes m l hn fun x hx => by
        have h3 := h x hx
        have : x ≠ m := fun e => c (e ▸ hx)
        omega
      omega
def stepW (f : Int → List Int → List Int) (ss : List Sl) (ts : List Tg) (node : Int) (l : List Int) (i : Nat) : List Int :=
  if (decide ((slAt ss i).ty = 2) && hasS (tgAt ts node) i && thereS ts (slAt ss i).th) = true then f (slAt ss i).th l else l
def foldW (f : Int → List Int → List Int) (ss : List Sl) (ts : List Tg) (node : Int) (l : List Int) (j : Nat) : List Int := (List.range j).foldl (stepW f ss ts node) l
def withinF (ss : List Sl) (ts : List Tg) : Nat → Int → List Int → List Int
  | 0, _, l => l
  | k + 1, node, l => if node ∈ l then l else foldW (withinF ss ts k) ss ts node (l ++ [node]) ss.length
theorem foldW_succ (f : Int → List Int → List Int) (ss : List Sl) (ts : List Tg) (node : Int) (l : List Int) (j : Nat) : foldW f ss ts node l (j + 1) = stepW f ss ts node (foldW f ss ts node l j) j := by
  unfold foldW; rw [List.range_succ, List.foldl_append]; rfl
/-- Nodes that are there, each once. -/
def okL (ts : List Tg) (l : List Int) : Prop := l.Nodup ∧ ∀ x, x ∈ l → thereS ts x = true
theorem okL.len {ts : List Tg} {l : List Int} (h : okL ts l) : l.length ≤ ts.length := holes _ _ h.1 fun x hx => by
  have := h.2 x hx
  simp only [thereS, decide_eq_true_eq] at this
  omega
theorem foldW_ok {f : Int → List Int → List Int} {ss : List Sl} {ts : List Tg} {node : Int} (hf : ∀ t l, thereS ts t = true → okL ts l → okL ts (f t l) ∧ l.length ≤ (f t l).length) {l : List Int} (hl : okL ts l) : ∀ j, okL ts (foldW f ss ts node l j) ∧ l.length ≤ (foldW f ss ts node l j).length
  | 0 => ⟨hl, Nat.le_refl _⟩
  | j + 1 => by
    obtain ⟨h1, h2⟩ := foldW_ok (ss := ss) (node := node) hf hl j
    rw [foldW_succ]
    unfold stepW
    split
    · rename_i c
      simp only [Bool.and_eq_true] at c
      obtain ⟨h3, h4⟩ := hf _ _ c.2 h1
      exact ⟨h3, by omega⟩
    · exact ⟨h1, h2⟩
theorem okL.snoc {ts : List Tg} {l : List Int} (h : okL ts l) {x : Int} (hx : x ∉ l) (ht : thereS ts x = true) : okL ts (l ++ [x]) := by
  refine ⟨List.nodup_append.2 ⟨h.1, by simp, fun a ha b hb => ?_⟩, fun y hy => ?_⟩
  · rw [List.mem_singleton] at hb; subst hb; exact fun e => hx (e ▸ ha)
  · rcases List.mem_append.1 hy with hy | hy
    · exact h.2 y hy
    · rw [List.mem_singleton.1 hy]; exact ht
theorem withinF_ok (ss : List Sl) (ts : List Tg) : ∀ (k : Nat) (t : Int) (l : List Int), thereS ts t = true → okL ts l → okL ts (withinF ss ts k t l) ∧ l.length ≤ (withinF ss ts k t l).length
  | 0, t, l, _, hl => ⟨hl, Nat.le_refl _⟩
  | k + 1, t, l, ht, hl => by
    unfold withinF
    by_cases c : t ∈ l
    · rw [if_pos c]; exact ⟨hl, Nat.le_refl _⟩
    · rw [if_neg c]
      obtain ⟨h1, h2⟩ := foldW_ok (ss := ss) (node := t) (fun t l ht hl => withinF_ok ss ts k t l ht hl) (hl.snoc c ht) ss.length
      exact ⟨h1, by rw [List.length_append] at h2; omega⟩
/-- All but one is as it was. -/
structure KX (r : Nat) (g : AMem) (n : Nat) (g' : AMem) (n' : Nat) : Prop where
  le : n ≤ n'
  same : ∀ i, i < n → i ≠ r → g' i = g i
  dom : ∀ i, g' i ≠ none → i < n'
theorem KX.trans {r : Nat} {g g' g'' : AMem} {n n' n'' : Nat} (h : KX r g n g' n') (h' : KX r g' n' g'' n'') : KX r g n g'' n'' := ⟨Nat.le_trans h.le h'.le, fun i hi hr => by rw [h'.same i (Nat.lt_of_lt_of_le hi h.le) hr, h.same i hi hr], h'.dom⟩
theorem KX.new {r : Nat} {g g' : AMem} {n n' : Nat} (h : KX r g n g' n') (o : AObj) : KX r g n (gset g' n' (some o)) (n' + 1) := ⟨Nat.le_succ_of_le h.le, fun i hi hr => by
  have := h.le
  rw [gset, if_neg (by omega)]; exact h.same i hi hr, fun i hi => by
  unfold gset at hi
  split at hi
  · omega
  · exact Nat.lt_succ_of_lt (h.dom i hi)⟩
theorem KX.put {r : Nat} {g g' : AMem} {n n' : Nat} (h : KX r g n g' n') (hr : r < n') (o : AObj) : KX r g n (gset g' r (some o)) n' := ⟨h.le, fun i hi hr => by rw [gset, if_neg hr]; exact h.same i hi hr, fun i hi => by
  unfold gset at hi
  split at hi
  · omega
  · exact h.dom i hi⟩
theorem KX.refl {r : Nat} {g : AMem} {n : Nat} (h : ∀ i, g i ≠ none → i < n) : KX r g n g n := ⟨Nat.le_refl _, fun _ _ _ => rfl, h⟩
theorem KX.ext {r : Nat} {g g' h : AMem} {n n' : Nat} (k : KX r g n g' n') (hd : ∀ i, g i ≠ none → i < n) (hx : Ext h g) (hr : h r = none) : Ext h g' := fun i o hi => by
  have h1 := hx i o hi
  rw [k.same i (hd i (by rw [h1]; simp)) (fun e => by rw [e, hr] at hi; cases hi), h1]
theorem state_within (a b c : Int) (VS VT : Value) (ss : List Sl) (ts : List Tg) (hl : ss.length ≤ 100000) (hb : ∀ t, t ∈ ts → nodeIn t) (h : AMem) (hs : rdS h VS ss) (ht : rdG h VT ts) (r : Nat) (hr : h r = none) :
    ∀ (k : Nat) (node : Int) (l : List Int) (g : AMem) (n : Nat), (∀ i, g i ≠ none → i < n) → Ext h g → g r = some (rowM l) → thereS ts node = true → okL ts l → ts.length < k + l.length →
      FnS Try.prog f_state_within [sv a b c VS VT, .int .i64 node, .map (some r)] g n (fun i => i = r) fun v g' n' => g' r = some (rowM (withinF ss ts k node l)) ∧ KX r g n g' n'
  | 0, node, l, g, n, hdom, hx, hg, hn, ho, hk => by have := ho.len; omega
  | k + 1, node, l, g, n, hdom, hx, hg, hn, ho, hk => by
    have IH := state_within a b c VS VT ss ts hl hb h hs ht r hr k
    refine fnS_of_rwp t_state_within hm rfl hdom ?_
    have hrn := hdom r (by rw [hg]; simp)
    obtain ⟨xa, xe, hVS⟩ := hs.form
    have hgr : gset g n (some (rowS a b c VS VT)) r = some (rowM l) := by rw [gset, if_neg (by omega)]; exact hg
    simp (maxSteps := 1000000) (disch := first | assumption | omega | rfl | decide | simp only [fitsR, Bool.and_self]) [↓rules, rules, ↓rulesDp, rulesDq, lit_u64, Int.ofNat_inj, stops, rc_state_within, q_int, q_bool, q_geo_Geo, q_S_state_Slot, q_S_thing_Thing, q_state_State, q_cap_Cap, q_state_Slot, q_uint64, q_A4_uint64, q_thing_Thing, q_map_int_bool, rdo_lookup]
    rw [lookM (l := l) hgr]
    by_cases cm : node ∈ l
    · rw [decide_eq_true cm]
      simp (maxSteps := 1000000) (disch := first | assumption | omega | rfl | decide | simp only [fitsR, Bool.and_self]) [↓rules, rules, ↓rulesDp, rulesDq, lit_u64, Int.ofNat_inj, stops, q_int, q_bool, q_geo_Geo, q_S_state_Slot, q_S_thing_Thing, q_state_State, q_cap_Cap, q_state_Slot, q_uint64, q_A4_uint64, q_thing_Thing, q_map_int_bool]
      exact sdone_ret rfl ⟨by rw [withinF, if_pos cm]; exact hgr, (KX.refl hdom).new _⟩
    rw [decide_eq_false cm]
    simp (maxSteps := 1000000) (disch := first | assumption | omega | rfl | decide | simp only [fitsR, Bool.and_self]) [↓rules, rules, ↓rulesDp, rulesDq, lit_u64, Int.ofNat_inj, stops, q_int, q_bool, q_geo_Geo, q_S_state_Slot, q_S_thing_Thing, q_state_State, q_cap_Cap, q_state_Slot, q_uint64, q_A4_uint64, q_thing_Thing, q_map_int_bool, rdo_mapUpdate]
    rw [putM (l := l) hgr cm]
    have kx : KX r g n (gset (gset g n (some (rowS a b c VS VT))) r (some (rowM (l ++ [node])))) (n + 1) := ((KX.refl hdom).new _).put (by omega) _
    have t0 : gset (gset g n (some (rowS a b c VS VT))) r (some (rowM (l ++ [node]))) n = some (rowS a b c VS VT) := by rw [gset, if_neg (by omega), gset, if_pos rfl]
    have t1 : gset (gset g n (some (rowS a b c VS VT))) r (some (rowM (l ++ [node]))) r = some (rowM (l ++ [node])) := by rw [gset, if_pos rfl]
    simp only [Option.map_some, reff_put]
    refine ⟨trivial, fun _ => trivial, ?_⟩
    generalize gset (gset g n (some (rowS a b c VS VT))) r (some (rowM (l ++ [node]))) = G at *
    rw [hVS] at t0
    simp (maxSteps := 1000000) (disch := first | assumption | omega | rfl | decide | simp only [fitsR, Bool.and_self]) [↓rules, rules, ↓rulesDp, rulesDq, lit_u64, Int.ofNat_inj, stops, q_int, q_bool, q_geo_Geo, q_S_state_Slot, q_S_thing_Thing, q_state_State, q_cap_Cap, q_state_Slot, q_uint64, q_A4_uint64, q_thing_Thing, q_map_int_bool, t0]
    rw [← hVS] at t0 ⊢
    have on := ho.snoc cm hn
    obtain ⟨hn0, hn1, hn2⟩ : 0 ≤ node ∧ node < ts.length ∧ (tgAt ts node).ty ≠ 0 := by simpa [thereS] using hn
    obtain ⟨q, rfl⟩ : ∃ q : Nat, node = q := ⟨node.toNat, by omega⟩
    have hq : q < ts.length := by omega
    refine rwp_loop (fun j l2 g' n' => ∃ i, j = ss.length - i ∧ i ≤ ss.length ∧ KX r g n g' n' ∧ n + 1 ≤ n' ∧ g' n = some (rowS a b c VS VT) ∧ g' r = some (rowM (foldW (withinF ss ts k) ss ts q (l ++ [(q : Int)]) i)) ∧ l2 = [(1, .int .i64 q), (2, .map (some r)), (3, .pointer (some ⟨n, 0, none⟩)), (14, VS), (15, .int .i64 ss.length), (16, .int .i64 i)]) ?_ (k := ss.length) ?_
    · rintro j l2 g' n' ⟨i, rfl, hi, kp, hn', r0, r1, rfl⟩
      obtain ⟨o1, o2⟩ := foldW_ok (ss := ss) (node := (q : Int)) (fun t l ht hl => withinF_ok ss ts k t l ht hl) on i
      have hsucc := foldW_succ (withinF ss ts k) ss ts (q : Int) (l ++ [(q : Int)]) i
      have hend : withinF ss ts (k + 1) q l = foldW (withinF ss ts k) ss ts q (l ++ [(q : Int)]) ss.length := by rw [withinF, if_neg cm]
      by_cases hlt : (i : Int) < (ss.length : Int)
      case neg =>
        have : i = ss.length := by omega
        subst this
        simp (maxSteps := 1000000) (disch := first | assumption | omega | rfl | decide | simp only [fitsR, Bool.and_self]) [↓rules, rules, ↓rulesDp, rulesDq, lit_u64, Int.ofNat_inj, stops, rc_state_withinl0, q_int, q_bool, q_geo_Geo, q_S_state_Slot, q_S_thing_Thing, q_state_State, q_cap_Cap, q_state_Slot, q_uint64, q_A4_uint64, q_thing_Thing, q_map_int_bool, hlt]
        exact sdone_normal rfl ⟨by rw [hend]; exact r1, kp⟩
      have hlt1 : i < ss.length := by omega
      have hxg : Ext h g' := kp.ext hdom hx hr
      obtain ⟨b1, o1', f1, _, f2⟩ := rd_big hs cS_len hlt1
      have e1 := f2 g' hxg Try.prog _ ta_state_Slot ts_state_Slot
      simp only [cS] at e1
      have w1 : IntKind.i64.wrap ((i : Int) + 1) = ((i + 1 : Nat) : Int) := by rw [wrap_i64 (by omega) (by omega)]; omega
      rw [List.length_append, List.length_singleton] at o2
      generalize foldW (withinF ss ts k) ss ts (q : Int) (l ++ [(q : Int)]) i = L at *
      unfold stepW at hsucc
      rw [slAt_nat hlt1, tgAt_nat hq] at hsucc
      generalize hx1 : ss[i] = x at *
      obtain ⟨ty, th, ri, ba, up⟩ := x
      dsimp only at hsucc
      by_cases c2 : ty = 2
      case neg =>
        rw [decide_eq_false c2, Bool.false_and, Bool.false_and, if_neg (by simp)] at hsucc
        simp (maxSteps := 1000000) (disch := first | assumption | omega | rfl | decide | simp only [fitsR, Bool.and_self]) [↓rules, rules, ↓rulesDp, rulesDq, lit_u64, Int.ofNat_inj, stops, rc_state_withinl0, q_int, q_bool, q_geo_Geo, q_S_state_Slot, q_S_thing_Thing, q_state_State, q_cap_Cap, q_state_Slot, q_uint64, q_A4_uint64, q_thing_Thing, q_map_int_bool, f1, hlt, e1, c2, w1]
        exact ⟨by omega, ss.length - (i + 1), by omega, i + 1, rfl, by omega, kp.new _, by omega, by rw [← f1]; exact r0, by rw [hsucc]; exact r1, by omega⟩
      subst c2
      rw [decide_eq_true rfl, Bool.true_and] at hsucc
      obtain ⟨b2, o2', f3, _, f4⟩ := rd_big ht cG_len hq
      have k8 : KX r g n (gset g' n' (some (.row [.int .i64 2, .int .i64 th, .int .i64 ri, .int .i64 ba, .int .i64 up] true))) (n' + 1) := kp.new _
      have e3 := f4 _ (k8.ext hdom hx hr) Try.prog _ ta_thing_Thing ts_thing_Thing
      have r0' := r0
      rw [f3] at r0'
      have hqi : (q : Int) < (ts.length : Int) := by omega
      have hnb : nodeIn ts[q] := hb _ (List.getElem_mem hq)
      have key : (cG ts[q]).toArray = #[.int .i64 ts[q].ty, .int .i64 ts[q].bits, .int .i64 ts[q].base, .int .i64 ts[q].size, .int .i64 ts[q].used, .int .i64 ts[q].frm, .int .i64 ts[q].badge, .bool ts[q].full, U ts[q].word, U ts[q].d0, U ts[q].d1, U ts[q].d2, U ts[q].d3] := rfl
      simp (maxSteps := 1000000) (disch := first | assumption | omega | rfl | decide | simp only [fitsR, Bool.and_self]) [↓rules, rules, ↓rulesDp, rulesDq, lit_u64, Int.ofNat_inj, stops, rc_state_withinl0, q_int, q_bool, q_geo_Geo, q_S_state_Slot, q_S_thing_Thing, q_state_State, q_cap_Cap, q_state_Slot, q_uint64, q_A4_uint64, q_thing_Thing, q_map_int_bool, f1, hlt, e1, r0', hqi, e3]
      rw [← f1, ← f3]
      refine ⟨by omega, ?_⟩
      refine rcall_quiet rfl (state_has ts[q] i _ _ hnb) ?_
      cases c3 : hasS ts[q] i
      · rw [c3, Bool.false_and, if_neg (by simp)] at hsucc
        simp (maxSteps := 1000000) (disch := first | assumption | omega | rfl | decide | simp only [fitsR, Bool.and_self]) [↓rules, rules, ↓rulesDp, rulesDq, lit_u64, Int.ofNat_inj, stops, q_int, q_bool, q_geo_Geo, q_S_state_Slot, q_S_thing_Thing, q_state_State, q_cap_Cap, q_state_Slot, q_uint64, q_A4_uint64, q_thing_Thing, q_map_int_bool, w1]
        exact ⟨ss.length - (i + 1), by omega, i + 1, rfl, by omega, k8, by omega, r0, by rw [hsucc]; exact r1, by omega⟩
      rw [c3, Bool.true_and] at hsucc
      simp (maxSteps := 1000000) (disch := first | assumption | omega | rfl | decide | simp only [fitsR, Bool.and_self]) [↓rules, rules, ↓rulesDp, rulesDq, lit_u64, Int.ofNat_inj, stops, q_int, q_bool, q_geo_Geo, q_S_state_Slot, q_S_thing_Thing, q_state_State, q_cap_Cap, q_state_Slot, q_uint64, q_A4_uint64, q_thing_Thing, q_map_int_bool, r0]
      refine rcall_quiet rfl (state_there a b c VS VT ts th _ _ (ht.ext (k8.ext hdom hx hr))) ?_
      cases c4 : thereS ts th
      · rw [c4, if_neg (by simp)] at hsucc
        simp (maxSteps := 1000000) (disch := first | assumption | omega | rfl | decide | simp only [fitsR, Bool.and_self]) [↓rules, rules, ↓rulesDp, rulesDq, lit_u64, Int.ofNat_inj, stops, q_int, q_bool, q_geo_Geo, q_S_state_Slot, q_S_thing_Thing, q_state_State, q_cap_Cap, q_state_Slot, q_uint64, q_A4_uint64, q_thing_Thing, q_map_int_bool, w1]
        exact ⟨ss.length - (i + 1), by omega, i + 1, rfl, by omega, k8, by omega, r0, by rw [hsucc]; exact r1, by omega⟩
      rw [c4, if_pos rfl] at hsucc
      simp (maxSteps := 1000000) (disch := first | assumption | omega | rfl | decide | simp only [fitsR, Bool.and_self]) [↓rules, rules, ↓rulesDp, rulesDq, lit_u64, Int.ofNat_inj, stops, q_int, q_bool, q_geo_Geo, q_S_state_Slot, q_S_thing_Thing, q_state_State, q_cap_Cap, q_state_Slot, q_uint64, q_A4_uint64, q_thing_Thing, q_map_int_bool, r0]
      refine rcall_spec (IH th L _ _ k8.dom (k8.ext hdom hx hr) (by rw [gset, if_neg (by omega)]; exact r1) c4 o1 (by omega)) rfl (fun i hi _ => hi) rfl fun v g3 n3 ⟨p1, p2⟩ => ?_
      have k9 := k8.trans p2
      have l9 := p2.le
      have s9 := p2.same n (by omega) (by omega)
      rw [gset, if_neg (by omega)] at s9
      simp (maxSteps := 1000000) (disch := first | assumption | omega | rfl | decide | simp only [fitsR, Bool.and_self]) [↓rules, rules, ↓rulesDp, rulesDq, lit_u64, Int.ofNat_inj, stops, q_int, q_bool, q_geo_Geo, q_S_state_Slot, q_S_thing_Thing, q_state_State, q_cap_Cap, q_state_Slot, q_uint64, q_A4_uint64, q_thing_Thing, q_map_int_bool, w1]
      exact ⟨ss.length - (i + 1), by omega, i + 1, rfl, by omega, k9, by omega, by rw [s9]; exact r0, by rw [hsucc]; exact p1, by omega⟩
    · refine ⟨0, by simp, by simp, kx, by omega, t0, t1, by rfl⟩
end Go.Proofs.Ytkcahnefekkfaaa.F13W

namespace Go.Proofs.Ytkcahnefekkfaaa.F13W
open Go Go.Proofs Go.Proofs.YtkcahnefekkfaaaAbs
variable [Base]
set_option maxHeartbeats 8000000
set_option maxRecDepth 100000
def insideS (ss : List Sl) (ts : List Tg) (node slot : Int) : Bool := thereS ts node && (decide ((tgAt ts node).ty = 2) && decide (ownerS ts slot ∈ withinF ss ts (ts.length + 1) node []))
theorem state_inside (a b c : Int) (VS VT : Value) (ss : List Sl) (ts : List Tg) (node slot : Int) (g : AMem) (n : Nat) (hl : ss.length ≤ 100000) (hl2 : ts.length ≤ 100000) (hs : rdS g VS ss) (ht : rdG g VT ts) (hb : ∀ t, t ∈ ts → nodeIn t) : FnC Try.prog f_state_State_inside [sv a b c VS VT, .int .i64 node, .int .i64 slot] g n (fun _ => False) (.bool (insideS ss ts node slot)) g n := by
  refine fnC_of_rwp t_state_State_inside hm rfl fun hdom => ?_
  have k1 : Kept g n (gset g n (some (rowS a b c VS VT))) (n + 1) := (by repeat first | exact Kept.refl hdom | refine Kept.new ?_ _ | refine Kept.drop ?_ (by omega) | refine Kept.put ?_ (by omega) (by omega) _ | refine Kept.skip ?_)
  have ht1 := ht.ext (k1.ext hdom)
  have hs1 := hs.ext (k1.ext hdom)
  simp (maxSteps := 1000000) (disch := first | assumption | omega | rfl | decide | simp only [fitsR, Bool.and_self]) [↓rules, rules, ↓rulesDp, rulesDq, lit_u64, Int.ofNat_inj, stops, rc_state_State_inside, q_int, q_bool, q_geo_Geo, q_S_state_Slot, q_S_thing_Thing, q_state_State, q_cap_Cap, q_state_Slot, q_uint64, q_A4_uint64, q_thing_Thing, q_map_int_bool]
  refine rcall_quiet rfl (state_there a b c VS VT ts node _ _ ht1) ?_
  unfold insideS
  cases c1 : thereS ts node
  · simp (maxSteps := 1000000) (disch := first | assumption | omega | rfl | decide | simp only [fitsR, Bool.and_self]) [↓rules, rules, ↓rulesDp, rulesDq, lit_u64, Int.ofNat_inj, stops, q_int, q_bool, q_geo_Geo, q_S_state_Slot, q_S_thing_Thing, q_state_State, q_cap_Cap, q_state_Slot, q_uint64, q_A4_uint64, q_thing_Thing, q_map_int_bool]
    exact done_q hdom k1 rfl rfl
  obtain ⟨hn0, hn1, hn2⟩ : 0 ≤ node ∧ node < ts.length ∧ (tgAt ts node).ty ≠ 0 := by simpa [thereS] using c1
  obtain ⟨q, rfl⟩ : ∃ q : Nat, node = q := ⟨node.toNat, by omega⟩
  have hq : q < ts.length := by omega
  obtain ⟨b2, o2, f3, f4⟩ := rd_tg ht hq
  have e3 := f4 _ (k1.ext hdom) Try.prog _ ta_int
  have k2 := k1
  rw [f3] at e3 k2
  have tq := tgAt_nat hq
  by_cases c2 : ts[q].ty = 2
  case neg =>
    rw [tq, decide_eq_false c2]
    simp (maxSteps := 1000000) (disch := first | assumption | omega | rfl | decide | simp only [fitsR, Bool.and_self]) [↓rules, rules, ↓rulesDp, rulesDq, lit_u64, Int.ofNat_inj, stops, q_int, q_bool, q_geo_Geo, q_S_state_Slot, q_S_thing_Thing, q_state_State, q_cap_Cap, q_state_Slot, q_uint64, q_A4_uint64, q_thing_Thing, q_map_int_bool, hn1, e3, f3, c2]
    exact done_q hdom k2 rfl rfl
  rw [tq, decide_eq_true c2]
  simp (maxSteps := 1000000) (disch := first | assumption | omega | rfl | decide | simp only [fitsR, Bool.and_self]) [↓rules, rules, ↓rulesDp, rulesDq, lit_u64, Int.ofNat_inj, stops, q_int, q_bool, q_geo_Geo, q_S_state_Slot, q_S_thing_Thing, q_state_State, q_cap_Cap, q_state_Slot, q_uint64, q_A4_uint64, q_thing_Thing, q_map_int_bool, hn1, e3, f3, c2]
  rw [← f3] at e3 ⊢
  have k3 : Kept g n (gset (gset g n (some (rowS a b c VS VT))) (n + 1) (some (.map []))) (n + 1 + 1) := (by repeat first | exact Kept.refl hdom | refine Kept.new ?_ _ | refine Kept.drop ?_ (by omega) | refine Kept.put ?_ (by omega) (by omega) _ | refine Kept.skip ?_)
  have hx : Ext g (gset (gset g n (some (rowS a b c VS VT))) (n + 1) (some (.map []))) := k3.ext hdom
  have hdn : g (n + 1) = none := by
    cases hc : g (n + 1) with
    | none => rfl
    | some o => have := hdom (n + 1) (by rw [hc]; simp); omega
  simp (maxSteps := 1000000) (disch := first | assumption | omega | rfl | decide | simp only [fitsR, Bool.and_self]) [↓rules, rules, ↓rulesDp, rulesDq, lit_u64, Int.ofNat_inj, stops, q_int, q_bool, q_geo_Geo, q_S_state_Slot, q_S_thing_Thing, q_state_State, q_cap_Cap, q_state_Slot, q_uint64, q_A4_uint64, q_thing_Thing, q_map_int_bool, rdo_makeMap]
  refine rcall_spec (state_within a b c VS VT ss ts hl hb g hs ht (n + 1) hdn (ts.length + 1) q [] _ _ k3.dom hx (by simp [gset]) c1 ⟨List.nodup_nil, by simp⟩ (by simp)) rfl (fun i hi => ?_) rfl fun v g3 n3 ⟨p1, p2⟩ => ?_
  · omega
  have l3 := p2.le
  have k4 : Kept g n g3 n3 := ⟨by omega, fun i hi => by rw [p2.same i (by omega) (by omega)]; exact k3.same i hi, p2.dom⟩
  have r3 : g3 n = some (rowS a b c VS VT) := by rw [p2.same n (by omega) (by omega)]; simp [gset]
  simp (maxSteps := 1000000) (disch := first | assumption | omega | rfl | decide | simp only [fitsR, Bool.and_self]) [↓rules, rules, ↓rulesDp, rulesDq, lit_u64, Int.ofNat_inj, stops, q_int, q_bool, q_geo_Geo, q_S_state_Slot, q_S_thing_Thing, q_state_State, q_cap_Cap, q_state_Slot, q_uint64, q_A4_uint64, q_thing_Thing, q_map_int_bool, r3]
  refine rcall_quiet rfl (state_owner a b c VS VT ts slot _ _ hl2 (ht.ext (k4.ext hdom)) hb) ?_
  simp (maxSteps := 1000000) (disch := first | assumption | omega | rfl | decide | simp only [fitsR, Bool.and_self]) [↓rules, rules, ↓rulesDp, rulesDq, lit_u64, Int.ofNat_inj, stops, q_int, q_bool, q_geo_Geo, q_S_state_Slot, q_S_thing_Thing, q_state_State, q_cap_Cap, q_state_Slot, q_uint64, q_A4_uint64, q_thing_Thing, q_map_int_bool, rdo_lookup]
  rw [lookM p1]
  simp (maxSteps := 1000000) (disch := first | assumption | omega | rfl | decide | simp only [fitsR, Bool.and_self]) [↓rules, rules, ↓rulesDp, rulesDq, lit_u64, Int.ofNat_inj, stops, q_int, q_bool, q_geo_Geo, q_S_state_Slot, q_S_thing_Thing, q_state_State, q_cap_Cap, q_state_Slot, q_uint64, q_A4_uint64, q_thing_Thing, q_map_int_bool]
  exact done_q hdom k4 rfl rfl
def ringS (ss : List Sl) (ts : List Tg) : Bool := (List.range ss.length).any fun i => decide ((slAt ss i).ty = 2) && insideS ss ts (slAt ss i).th i
theorem state_ring (a b c : Int) (VS VT : Value) (ss : List Sl) (ts : List Tg) (g : AMem) (n : Nat) (hl : ss.length ≤ 100000) (hl2 : ts.length ≤ 100000) (hs : rdS g VS ss) (ht : rdG g VT ts) (hb : ∀ t, t ∈ ts → nodeIn t) : FnC Try.prog f_state_State_ring [sv a b c VS VT] g n (fun _ => False) (.bool (ringS ss ts)) g n := by
  refine fnC_of_rwp t_state_State_ring hm rfl fun hdom => ?_
  obtain ⟨xa, xe, hVS⟩ := hs.form
  simp (maxSteps := 1000000) (disch := first | assumption | omega | rfl | decide | simp only [fitsR, Bool.and_self]) [↓rules, rules, ↓rulesDp, rulesDq, lit_u64, Int.ofNat_inj, stops, rc_state_State_ring, q_int, q_bool, q_geo_Geo, q_S_state_Slot, q_S_thing_Thing, q_state_State, q_cap_Cap, q_state_Slot, q_uint64, q_A4_uint64, q_thing_Thing, hVS]
  rw [← hVS]
  refine rwp_loop (fun j l g' n' => ∃ i, j = ss.length - i ∧ i ≤ ss.length ∧ Kept g n g' n' ∧ n + 1 ≤ n' ∧ g' n = some (rowS a b c VS VT) ∧ (List.range i).any (fun i => decide ((slAt ss i).ty = 2) && insideS ss ts (slAt ss i).th i) = false ∧ l = [(1, .pointer (some ⟨n, 0, none⟩)), (6, VS), (7, .int .i64 ss.length), (8, .int .i64 i)]) ?_ (k := ss.length) ?_
  · rintro j l g' n' ⟨i, rfl, hi, kp, hn', r0, he, rfl⟩
    by_cases hlt : (i : Int) < (ss.length : Int)
    case neg =>
      have : i = ss.length := by omega
      subst this
      simp (maxSteps := 1000000) (disch := first | assumption | omega | rfl | decide | simp only [fitsR, Bool.and_self]) [↓rules, rules, ↓rulesDp, rulesDq, lit_u64, Int.ofNat_inj, stops, rc_state_State_ringl0, q_int, q_bool, q_geo_Geo, q_S_state_Slot, q_S_thing_Thing, q_state_State, q_cap_Cap, q_state_Slot, q_uint64, q_A4_uint64, q_thing_Thing, hlt]
      refine done_q hdom kp rfl ?_
      rw [show ringS ss ts = false from he]; rfl
    have hlt1 : i < ss.length := by omega
    obtain ⟨b1, o1, f1, _, f2⟩ := rd_big hs cS_len hlt1
    have e1 := f2 g' (kp.ext hdom) Try.prog _ ta_state_Slot ts_state_Slot
    simp only [cS] at e1
    have w1 : IntKind.i64.wrap ((i : Int) + 1) = ((i + 1 : Nat) : Int) := by rw [wrap_i64 (by omega) (by omega)]; omega
    have hsx := slAt_nat hlt1
    have bad : (decide (ss[i].ty = 2) && insideS ss ts ss[i].th i) = true → ringS ss ts = true := fun h => by
      unfold ringS
      rw [List.any_eq_true]
      exact ⟨i, List.mem_range.2 hlt1, by rw [hsx]; exact h⟩
    have good : (decide (ss[i].ty = 2) && insideS ss ts ss[i].th i) = false → (List.range (i + 1)).any (fun i => decide ((slAt ss i).ty = 2) && insideS ss ts (slAt ss i).th i) = false := fun h => by
      rw [List.range_succ, List.any_append, he, Bool.false_or, List.any_cons, hsx, h]; rfl
    generalize hx : ss[i] = x at *
    obtain ⟨ty, th, ri, ba, up⟩ := x
    dsimp only at bad good
    have k8 : Kept g n (gset g' n' (some (.row [.int .i64 ty, .int .i64 th, .int .i64 ri, .int .i64 ba, .int .i64 up] true))) (n' + 1) := (by repeat first | exact kp | refine Kept.new ?_ _ | refine Kept.drop ?_ (by omega) | refine Kept.put ?_ (by omega) (by omega) _ | refine Kept.skip ?_)
    by_cases c2 : ty = 2
    case neg =>
      simp (maxSteps := 1000000) (disch := first | assumption | omega | rfl | decide | simp only [fitsR, Bool.and_self]) [↓rules, rules, ↓rulesDp, rulesDq, lit_u64, Int.ofNat_inj, stops, rc_state_State_ringl0, q_int, q_bool, q_geo_Geo, q_S_state_Slot, q_S_thing_Thing, q_state_State, q_cap_Cap, q_state_Slot, q_uint64, q_A4_uint64, q_thing_Thing, f1, hlt, e1, c2, w1]
      exact ⟨by omega, ss.length - (i + 1), by omega, i + 1, rfl, by omega, k8, by omega, by rw [← f1]; exact r0, by simpa using good (by simp [c2]), by omega⟩
    subst c2
    rw [f1] at r0
    simp (maxSteps := 1000000) (disch := first | assumption | omega | rfl | decide | simp only [fitsR, Bool.and_self]) [↓rules, rules, ↓rulesDp, rulesDq, lit_u64, Int.ofNat_inj, stops, rc_state_State_ringl0, q_int, q_bool, q_geo_Geo, q_S_state_Slot, q_S_thing_Thing, q_state_State, q_cap_Cap, q_state_Slot, q_uint64, q_A4_uint64, q_thing_Thing, f1, hlt, e1, r0]
    rw [← f1] at r0 ⊢
    refine ⟨by omega, ?_⟩
    refine rcall_quiet rfl (state_inside a b c VS VT ss ts th i _ _ hl hl2 (hs.ext (k8.ext hdom)) (ht.ext (k8.ext hdom)) hb) ?_
    cases c3 : insideS ss ts th i
    · simp (maxSteps := 1000000) (disch := first | assumption | omega | rfl | decide | simp only [fitsR, Bool.and_self]) [↓rules, rules, ↓rulesDp, rulesDq, lit_u64, Int.ofNat_inj, stops, q_int, q_bool, q_geo_Geo, q_S_state_Slot, q_S_thing_Thing, q_state_State, q_cap_Cap, q_state_Slot, q_uint64, q_A4_uint64, q_thing_Thing, w1]
      exact ⟨ss.length - (i + 1), by omega, i + 1, rfl, by omega, k8, by omega, r0, by simpa using good (by simp [c3]), by omega⟩
    · rw [bad (by simp [c3])]
      simp (maxSteps := 1000000) (disch := first | assumption | omega | rfl | decide | simp only [fitsR, Bool.and_self]) [↓rules, rules, ↓rulesDp, rulesDq, lit_u64, Int.ofNat_inj, stops, q_int, q_bool, q_geo_Geo, q_S_state_Slot, q_S_thing_Thing, q_state_State, q_cap_Cap, q_state_Slot, q_uint64, q_A4_uint64, q_thing_Thing]
      exact done_q hdom k8 rfl rfl
  · exact ⟨0, by simp, by simp, (by repeat first | exact Kept.refl hdom | refine Kept.new ?_ _ | refine Kept.drop ?_ (by omega) | refine Kept.put ?_ (by omega) (by omega) _ | refine Kept.skip ?_), by omega, by simp [gset], rfl, by rfl⟩
end Go.Proofs.Ytkcahnefekkfaaa.F13W

namespace Go.Proofs.Ytkcahnefekkfaaa.F13W
open Go Go.Proofs Go.Proofs.YtkcahnefekkfaaaAbs
variable [Base]
set_option maxHeartbeats 8000000
set_option maxRecDepth 100000
/-! ### Each thing may be so, and has a slot -/
theorem rrun_mono {P : Program} {may : Nat → Prop} {ops : List ROp} {K K' : RL → AMem → Nat → Prop} {l : RL} {g : AMem} {n : Nat} (h : rrun P may ops K l g n) (hk : ∀ l g n, K l g n → K' l g n) : rrun P may ops K' l g n := by
  obtain ⟨l', g', n', h1, h2⟩ := rrun_exact ops l g n h
  exact h2 K' (hk _ _ _ h1)
theorem rval_mono {P : Program} {may : Nat → Prop} {dst : Option Tmp} {ops : List ROp} {K K' : RL → AMem → Nat → Prop} {l : RL} {g : AMem} {n : Nat} {o : Option Value} (h : rval dst (rrun P may ops K) l g n o) (hk : ∀ l g n, K l g n → K' l g n) : rval dst (rrun P may ops K') l g n o := by
  cases o with
  | none => exact h
  | some v => exact rrun_mono h hk
def toT (t : Tg) : Th := ⟨t.ty, t.bits, t.base, t.size, t.used, t.frm, t.badge, t.full, t.word, t.d0, t.d1, t.d2, t.d3⟩
def rootT (r : Int) : Tg := ⟨2, 3, r, 0, 0, 0, 0, false, 0#64, 0#64, 0#64, 0#64, 0#64⟩
def frmBad (ss : List Sl) (t : Tg) : Bool := decide (0 < t.frm) && (decide ((ss.length : Int) < t.frm) || noneS (slAt ss (t.frm - 1)))
def thOk (a b c : Int) (ss : List Sl) (i : Nat) (t : Tg) : Bool := goodT (toT t) && (!frmBad ss t && (if 2 ≤ i ∧ (i : Int) < 2 + a then decide (t = rootT (rootG a b c ((i : Int) - 2))) else (decide (t.ty = 0) || !decide (holdS ss i = []))))
def thingsS (a b c : Int) (ss : List Sl) (ts : List Tg) : Bool := (List.range ts.length).all fun i => thOk a b c ss i (tgAt ts i)
theorem state_things (a b c : Int) (VS VT : Value) (ss : List Sl) (ts : List Tg) (g : AMem) (n : Nat) (ha : 0 ≤ a ∧ a ≤ 4) (hl : ss.length ≤ 100000) (hl2 : ts.length ≤ 100000) (hs : rdS g VS ss) (ht : rdG g VT ts) : FnC Try.prog f_state_State_things [sv a b c VS VT] g n (fun _ => False) (.bool (thingsS a b c ss ts)) g n := by
  refine fnC_of_rwp t_state_State_things hm rfl fun hdom => ?_
  obtain ⟨ya, ye, hVT⟩ := ht.form
  simp (maxSteps := 1000000) (disch := first | assumption | omega | rfl | decide | simp only [fitsR, Bool.and_self]) [↓rules, rules, ↓rulesDp, rulesDq, lit_u64, Int.ofNat_inj, stops, rc_state_State_things, q_int, q_bool, q_geo_Geo, q_S_state_Slot, q_S_thing_Thing, q_state_State, q_cap_Cap, q_state_Slot, q_S_int, q_uint64, q_A4_uint64, q_thing_Thing, hVT]
  rw [← hVT]
  refine rwp_loop (fun j l g' n' => ∃ i, j = ts.length - i ∧ i ≤ ts.length ∧ Kept g n g' n' ∧ n + 1 ≤ n' ∧ g' n = some (rowS a b c VS VT) ∧ (List.range i).all (fun i => thOk a b c ss i (tgAt ts i)) = true ∧ l = [(1, .pointer (some ⟨n, 0, none⟩)), (7, VT), (8, .int .i64 ts.length), (9, .int .i64 i)]) ?_ (k := ts.length) ?_
  · rintro j l g' n' ⟨i, rfl, hi, kp, hn', r0, he, rfl⟩
    by_cases hlt : (i : Int) < (ts.length : Int)
    case neg =>
      have : i = ts.length := by omega
      subst this
      simp (maxSteps := 1000000) (disch := first | assumption | omega | rfl | decide | simp only [fitsR, Bool.and_self]) [↓rules, rules, ↓rulesDp, rulesDq, lit_u64, Int.ofNat_inj, stops, rc_state_State_thingsl0, q_int, q_bool, q_geo_Geo, q_S_state_Slot, q_S_thing_Thing, q_state_State, q_cap_Cap, q_state_Slot, q_S_int, q_uint64, q_A4_uint64, q_thing_Thing, hlt]
      refine done_q hdom kp rfl ?_
      rw [show thingsS a b c ss ts = true from he]; rfl
    have hlt1 : i < ts.length := by omega
    obtain ⟨b1, o1, f1, _, f2⟩ := rd_big ht cG_len hlt1
    have e1 := f2 g' (kp.ext hdom) Try.prog _ ta_thing_Thing ts_thing_Thing
    have w1 : IntKind.i64.wrap ((i : Int) + 1) = ((i + 1 : Nat) : Int) := by rw [wrap_i64 (by omega) (by omega)]; omega
    have htx := tgAt_nat hlt1
    have bad : thOk a b c ss i ts[i] = false → thingsS a b c ss ts = false := fun h => by
      unfold thingsS
      rw [List.all_eq_false]
      exact ⟨i, List.mem_range.2 hlt1, by rw [htx, h]; simp⟩
    have good : thOk a b c ss i ts[i] = true → (List.range (i + 1)).all (fun i => thOk a b c ss i (tgAt ts i)) = true := fun h => by
      rw [List.range_succ, List.all_append, he, Bool.true_and, List.all_cons, htx, h]; rfl
    generalize hx : ts[i] = t at *
    have k7 : Kept g n (gset g' n' (some (.row (cG t) true))) (n' + 1) := kp.new _
    have g7n : gset g' n' (some (.row (cG t) true)) n = some (rowS a b c VS VT) := by rw [gset, if_neg (by omega)]; exact r0
    have g7t : gset g' n' (some (.row (cG t) true)) n' = some (.row (cG t) true) := by rw [gset, if_pos rfl]
    obtain ⟨ty, bits, base, size, used, frm, badge, full, word, d0, d1, d2, d3⟩ := t
    simp only [cG] at e1 k7 g7n g7t
    simp (maxSteps := 1000000) (disch := first | assumption | omega | rfl | decide | simp only [fitsR, Bool.and_self]) [↓rules, rules, ↓rulesDp, rulesDq, lit_u64, Int.ofNat_inj, stops, rc_state_State_thingsl0, q_int, q_bool, q_geo_Geo, q_S_state_Slot, q_S_thing_Thing, q_state_State, q_cap_Cap, q_state_Slot, q_S_int, q_uint64, q_A4_uint64, q_thing_Thing, f1, hlt, e1]
    rw [← f1]
    refine ⟨by omega, ?_⟩
    refine rcall_quiet rfl (thing_Good (toT ⟨ty, bits, base, size, used, frm, badge, full, word, d0, d1, d2, d3⟩) _ _) ?_
    have hs7 := hs.ext (k7.ext hdom)
    have ht7 := ht.ext (k7.ext hdom)
    generalize gset g' n' (some (.row [.int .i64 ty, .int .i64 bits, .int .i64 base, .int .i64 size, .int .i64 used, .int .i64 frm, .int .i64 badge, .bool full, U word, U d0, U d1, U d2, U d3] true)) = G at *
    cases cg : goodT (toT ⟨ty, bits, base, size, used, frm, badge, full, word, d0, d1, d2, d3⟩)
    · rw [bad (by simp [thOk, cg])]
      simp (maxSteps := 1000000) (disch := first | assumption | omega | rfl | decide | simp only [fitsR, Bool.and_self]) [↓rules, rules, ↓rulesDp, rulesDq, lit_u64, Int.ofNat_inj, stops, q_int, q_bool, q_geo_Geo, q_S_state_Slot, q_S_thing_Thing, q_state_State, q_cap_Cap, q_state_Slot, q_S_int, q_uint64, q_A4_uint64, q_thing_Thing]
      exact done_q hdom k7 rfl rfl
    simp (maxSteps := 1000000) (disch := first | assumption | omega | rfl | decide | simp only [fitsR, Bool.and_self]) [↓rules, rules, ↓rulesDp, rulesDq, lit_u64, Int.ofNat_inj, stops, q_int, q_bool, q_geo_Geo, q_S_state_Slot, q_S_thing_Thing, q_state_State, q_cap_Cap, q_state_Slot, q_S_int, q_uint64, q_A4_uint64, q_thing_Thing]
    obtain ⟨xa, xe, hVS⟩ := hs.form
    refine rval_mono (K := fun l' g2 n2 => g2 = G ∧ n2 = n' + 1 ∧ YtkcahnefekkfaaaAbs.look 38 l' = .bool (frmBad ss ⟨ty, bits, base, size, used, frm, badge, full, word, d0, d1, d2, d3⟩) ∧ YtkcahnefekkfaaaAbs.look 1 l' = .pointer (some ⟨n, 0, none⟩) ∧ YtkcahnefekkfaaaAbs.look 3 l' = .int .i64 i ∧ YtkcahnefekkfaaaAbs.look 4 l' = .pointer (some ⟨n', 0, none⟩) ∧ YtkcahnefekkfaaaAbs.look 7 l' = VT ∧ YtkcahnefekkfaaaAbs.look 8 l' = .int .i64 ts.length ∧ YtkcahnefekkfaaaAbs.look 9 l' = .int .i64 i) ?_ (fun l' g2 n2 ⟨q0, q1, q38, z1, z3, z4, z7, z8, z9⟩ => ?_)
    · unfold frmBad
      dsimp only
      by_cases d1 : 0 < frm
      case neg =>
        rw [decide_eq_false d1, Bool.false_and]
        simp (maxSteps := 1000000) (disch := first | assumption | omega | rfl | decide | simp only [fitsR, Bool.and_self]) [↓rules, rules, ↓rulesDp, rulesDq, lit_u64, Int.ofNat_inj, stops, q_int, q_bool, q_geo_Geo, q_S_state_Slot, q_S_thing_Thing, q_state_State, q_cap_Cap, q_state_Slot, q_S_int, q_uint64, q_A4_uint64, q_thing_Thing, g7t, d1]
      rw [decide_eq_true d1, Bool.true_and]
      by_cases d2 : (ss.length : Int) < frm
      · rw [decide_eq_true d2, Bool.true_or]
        have g7n' := g7n
        rw [hVS] at g7n'
        simp (maxSteps := 1000000) (disch := first | assumption | omega | rfl | decide | simp only [fitsR, Bool.and_self]) [↓rules, rules, ↓rulesDp, rulesDq, lit_u64, Int.ofNat_inj, stops, q_int, q_bool, q_geo_Geo, q_S_state_Slot, q_S_thing_Thing, q_state_State, q_cap_Cap, q_state_Slot, q_S_int, q_uint64, q_A4_uint64, q_thing_Thing, g7t, d1, g7n', d2]
      rw [decide_eq_false d2, Bool.false_or]
      obtain ⟨q, hq⟩ : ∃ q : Nat, frm - 1 = q := ⟨(frm - 1).toNat, by omega⟩
      have hql : q < ss.length := by omega
      have hql' : (q : Int) < ss.length := by omega
      have w2 : IntKind.i64.wrap (frm - 1) = q := by rw [wrap_i64 (by omega) (by omega)]; exact hq
      obtain ⟨b2, o2, f3, f4⟩ := rd_slot hs7 hql
      have e3 := (f4 _ (Ext.refl _)).1 Try.prog _ ta_cap_Cap ts_cap_Cap
      have g7n' := g7n
      rw [f3] at g7n'
      rw [hq, slAt_nat hql]
      generalize hy : ss[q] = y at *
      obtain ⟨ty', th', ri', ba', up'⟩ := y
      simp (maxSteps := 1000000) (disch := first | assumption | omega | rfl | decide | simp only [fitsR, Bool.and_self]) [↓rules, rules, ↓rulesDp, rulesDq, lit_u64, Int.ofNat_inj, stops, q_int, q_bool, q_geo_Geo, q_S_state_Slot, q_S_thing_Thing, q_state_State, q_cap_Cap, q_state_Slot, q_S_int, q_uint64, q_A4_uint64, q_thing_Thing, g7t, d1, g7n', d2, w2, hql', e3]
      refine rcall_quiet rfl (cap_None ty' th' ri' ba' _ _) ?_
      simp (maxSteps := 1000000) (disch := first | assumption | omega | rfl | decide | simp only [fitsR, Bool.and_self]) [↓rules, rules, ↓rulesDp, rulesDq, lit_u64, Int.ofNat_inj, stops, q_int, q_bool, q_geo_Geo, q_S_state_Slot, q_S_thing_Thing, q_state_State, q_cap_Cap, q_state_Slot, q_S_int, q_uint64, q_A4_uint64, q_thing_Thing]
      rfl
    subst q0 q1
    cases cf : frmBad ss ⟨ty, bits, base, size, used, frm, badge, full, word, d0, d1, d2, d3⟩
    case true =>
      rw [bad (by simp [thOk, cf])]
      rw [cf] at q38
      simp (maxSteps := 1000000) (disch := first | assumption | omega | rfl | decide | simp only [fitsR, Bool.and_self]) [↓rules, rules, ↓rulesDp, rulesDq, lit_u64, Int.ofNat_inj, stops, q_int, q_bool, q_geo_Geo, q_S_state_Slot, q_S_thing_Thing, q_state_State, q_cap_Cap, q_state_Slot, q_S_int, q_uint64, q_A4_uint64, q_thing_Thing, q38]
      exact done_q hdom k7 rfl rfl
    rw [cf] at q38
    have w3 : IntKind.i64.wrap (2 + a) = 2 + a := wrap_i64 (by omega) (by omega)
    have hnon : ¬ (2 ≤ i ∧ (i : Int) < 2 + a) → thOk a b c ss i ⟨ty, bits, base, size, used, frm, badge, full, word, d0, d1, d2, d3⟩ = (decide (ty = 0) || !decide (holdS ss i = [])) := fun h => by
      unfold thOk
      rw [if_neg h, cg, cf]; rfl
    by_cases c1 : 2 ≤ (i : Int)
    case neg =>
      have hN := hnon (by omega)
      rw [hN] at good bad
      by_cases c3 : ty = 0
      · simp (maxSteps := 1000000) (disch := first | assumption | omega | rfl | decide | simp only [fitsR, Bool.and_self]) [↓rules, rules, ↓rulesDp, rulesDq, lit_u64, Int.ofNat_inj, stops, q_int, q_bool, q_geo_Geo, q_S_state_Slot, q_S_thing_Thing, q_state_State, q_cap_Cap, q_state_Slot, q_S_int, q_uint64, q_A4_uint64, q_thing_Thing, q38, z1, z3, z4, z7, z8, z9, c1, g7t, g7n, c3, w1]
        exact ⟨ts.length - (i + 1), by omega, i + 1, rfl, by omega, k7, by omega, by simpa using good (by simp [c3]), by omega⟩
      simp (maxSteps := 1000000) (disch := first | assumption | omega | rfl | decide | simp only [fitsR, Bool.and_self]) [↓rules, rules, ↓rulesDp, rulesDq, lit_u64, Int.ofNat_inj, stops, q_int, q_bool, q_geo_Geo, q_S_state_Slot, q_S_thing_Thing, q_state_State, q_cap_Cap, q_state_Slot, q_S_int, q_uint64, q_A4_uint64, q_thing_Thing, q38, z1, z3, z4, z7, z8, z9, c1, g7t, g7n, c3]
      refine rcall_spec (state_holders a b c VS VT ss i _ _ k7.dom hl hs7) rfl (fun _ h => h.elim) rfl fun v g3 n3 ⟨p1, p2⟩ => ?_
      obtain ⟨va, ve, hv⟩ := p1.rd.form
      have k9 := k7.trans p2
      have l9 := p2.le
      have s9 : g3 n = some (rowS a b c VS VT) := by rw [p2.same n (by omega)]; exact g7n
      by_cases ch : holdS ss i = []
      · rw [bad (by simp [c3, ch])]
        rw [ch] at hv
        simp (maxSteps := 1000000) (disch := first | assumption | omega | rfl | decide | simp only [fitsR, Bool.and_self]) [↓rules, rules, ↓rulesDp, rulesDq, lit_u64, Int.ofNat_inj, stops, q_int, q_bool, q_geo_Geo, q_S_state_Slot, q_S_thing_Thing, q_state_State, q_cap_Cap, q_state_Slot, q_S_int, q_uint64, q_A4_uint64, q_thing_Thing, hv, List.length_nil]
        exact done_q hdom k9 rfl rfl
      · have hne : ¬ ((holdS ss i).length : Int) = 0 := fun h => ch (List.length_eq_zero_iff.1 (by omega))
        simp (maxSteps := 1000000) (disch := first | assumption | omega | rfl | decide | simp only [fitsR, Bool.and_self]) [↓rules, rules, ↓rulesDp, rulesDq, lit_u64, Int.ofNat_inj, stops, q_int, q_bool, q_geo_Geo, q_S_state_Slot, q_S_thing_Thing, q_state_State, q_cap_Cap, q_state_Slot, q_S_int, q_uint64, q_A4_uint64, q_thing_Thing, hv, hne, w1]
        exact ⟨ts.length - (i + 1), by omega, i + 1, rfl, by omega, k9, by omega, s9, by simpa using good (by simp [ch]), by omega⟩
    by_cases c2 : (i : Int) < 2 + a
    case neg =>
      have hN := hnon (by omega)
      rw [hN] at good bad
      by_cases c3 : ty = 0
      · simp (maxSteps := 1000000) (disch := first | assumption | omega | rfl | decide | simp only [fitsR, Bool.and_self]) [↓rules, rules, ↓rulesDp, rulesDq, lit_u64, Int.ofNat_inj, stops, q_int, q_bool, q_geo_Geo, q_S_state_Slot, q_S_thing_Thing, q_state_State, q_cap_Cap, q_state_Slot, q_S_int, q_uint64, q_A4_uint64, q_thing_Thing, q38, z1, z3, z4, z7, z8, z9, c1, c2, w3, g7t, g7n, c3, w1]
        exact ⟨ts.length - (i + 1), by omega, i + 1, rfl, by omega, k7, by omega, by simpa using good (by simp [c3]), by omega⟩
      simp (maxSteps := 1000000) (disch := first | assumption | omega | rfl | decide | simp only [fitsR, Bool.and_self]) [↓rules, rules, ↓rulesDp, rulesDq, lit_u64, Int.ofNat_inj, stops, q_int, q_bool, q_geo_Geo, q_S_state_Slot, q_S_thing_Thing, q_state_State, q_cap_Cap, q_state_Slot, q_S_int, q_uint64, q_A4_uint64, q_thing_Thing, q38, z1, z3, z4, z7, z8, z9, c1, c2, w3, g7t, g7n, c3]
      refine rcall_spec (state_holders a b c VS VT ss i _ _ k7.dom hl hs7) rfl (fun _ h => h.elim) rfl fun v g3 n3 ⟨p1, p2⟩ => ?_
      obtain ⟨va, ve, hv⟩ := p1.rd.form
      have k9 := k7.trans p2
      have l9 := p2.le
      have s9 : g3 n = some (rowS a b c VS VT) := by rw [p2.same n (by omega)]; exact g7n
      by_cases ch : holdS ss i = []
      · rw [bad (by simp [c3, ch])]
        rw [ch] at hv
        simp (maxSteps := 1000000) (disch := first | assumption | omega | rfl | decide | simp only [fitsR, Bool.and_self]) [↓rules, rules, ↓rulesDp, rulesDq, lit_u64, Int.ofNat_inj, stops, q_int, q_bool, q_geo_Geo, q_S_state_Slot, q_S_thing_Thing, q_state_State, q_cap_Cap, q_state_Slot, q_S_int, q_uint64, q_A4_uint64, q_thing_Thing, hv, List.length_nil]
        exact done_q hdom k9 rfl rfl
      · have hne : ¬ ((holdS ss i).length : Int) = 0 := fun h => ch (List.length_eq_zero_iff.1 (by omega))
        simp (maxSteps := 1000000) (disch := first | assumption | omega | rfl | decide | simp only [fitsR, Bool.and_self]) [↓rules, rules, ↓rulesDp, rulesDq, lit_u64, Int.ofNat_inj, stops, q_int, q_bool, q_geo_Geo, q_S_state_Slot, q_S_thing_Thing, q_state_State, q_cap_Cap, q_state_Slot, q_S_int, q_uint64, q_A4_uint64, q_thing_Thing, hv, hne, w1]
        exact ⟨ts.length - (i + 1), by omega, i + 1, rfl, by omega, k9, by omega, s9, by simpa using good (by simp [ch]), by omega⟩
    have hR : thOk a b c ss i ⟨ty, bits, base, size, used, frm, badge, full, word, d0, d1, d2, d3⟩ = decide ((⟨ty, bits, base, size, used, frm, badge, full, word, d0, d1, d2, d3⟩ : Tg) = rootT (rootG a b c ((i : Int) - 2))) := by
      unfold thOk
      rw [if_pos ⟨by omega, c2⟩, cg, cf]; rfl
    rw [hR] at good bad
    have w4 : IntKind.i64.wrap ((i : Int) - 2) = (i : Int) - 2 := wrap_i64 (by omega) (by omega)
    have hq : ∀ xo yo (R : Int), aBin Try.prog .neq T_thing_Thing xo yo (.agg #[.int .i64 ty, .int .i64 bits, .int .i64 base, .int .i64 size, .int .i64 used, .int .i64 frm, .int .i64 badge, .bool full, U word, U d0, U d1, U d2, U d3]) (.agg #[.int .i64 2, .int .i64 3, .int .i64 R, .int .i64 0, .int .i64 0, .int .i64 0, .int .i64 0, .bool false, U 0#64, U 0#64, U 0#64, U 0#64, U 0#64]) = some (.bool (!decide ((⟨ty, bits, base, size, used, frm, badge, full, word, d0, d1, d2, d3⟩ : Tg) = rootT R))) := fun xo yo R => by
      rw [← eqG]; exact bne_thing_Thing xo yo (cG ⟨ty, bits, base, size, used, frm, badge, full, word, d0, d1, d2, d3⟩) (cG (rootT R)) rfl rfl
    simp (maxSteps := 1000000) (disch := first | assumption | omega | rfl | decide | simp only [fitsR, Bool.and_self]) [↓rules, rules, ↓rulesDp, rulesDq, lit_u64, Int.ofNat_inj, stops, q_int, q_bool, q_geo_Geo, q_S_state_Slot, q_S_thing_Thing, q_state_State, q_cap_Cap, q_state_Slot, q_S_int, q_uint64, q_A4_uint64, q_thing_Thing, q38, z1, z3, z4, z7, z8, z9, c1, c2, w3, g7t, g7n, w4, do_buildS tz_thing_Thing tp_thing_Thing]
    refine rcall_quiet rfl (RootG a b c _ _ _) ?_
    generalize rootG a b c _ = R at *
    simp (maxSteps := 1000000) (disch := first | assumption | omega | rfl | decide | simp only [fitsR, Bool.and_self]) [↓rules, rules, ↓rulesDp, rulesDq, lit_u64, Int.ofNat_inj, stops, q_int, q_bool, q_geo_Geo, q_S_state_Slot, q_S_thing_Thing, q_state_State, q_cap_Cap, q_state_Slot, q_S_int, q_uint64, q_A4_uint64, q_thing_Thing, do_buildS tz_thing_Thing tp_thing_Thing, hq]
    by_cases cr : (⟨ty, bits, base, size, used, frm, badge, full, word, d0, d1, d2, d3⟩ : Tg) = rootT R
    · simp (maxSteps := 1000000) (disch := first | assumption | omega | rfl | decide | simp only [fitsR, Bool.and_self]) [↓rules, rules, ↓rulesDp, rulesDq, lit_u64, Int.ofNat_inj, stops, q_int, q_bool, q_geo_Geo, q_S_state_Slot, q_S_thing_Thing, q_state_State, q_cap_Cap, q_state_Slot, q_S_int, q_uint64, q_A4_uint64, q_thing_Thing, cr, w1]
      exact ⟨ts.length - (i + 1), by omega, i + 1, rfl, by omega, k7, by omega, g7n, by simpa using good (by simp [cr]), by omega⟩
    · rw [bad (by simp [cr])]
      simp (maxSteps := 1000000) (disch := first | assumption | omega | rfl | decide | simp only [fitsR, Bool.and_self]) [↓rules, rules, ↓rulesDp, rulesDq, lit_u64, Int.ofNat_inj, stops, q_int, q_bool, q_geo_Geo, q_S_state_Slot, q_S_thing_Thing, q_state_State, q_cap_Cap, q_state_Slot, q_S_int, q_uint64, q_A4_uint64, q_thing_Thing, cr]
      exact done_q hdom k7 rfl rfl
  · exact ⟨0, by simp, by simp, (by repeat first | exact Kept.refl hdom | refine Kept.new ?_ _ | refine Kept.drop ?_ (by omega) | refine Kept.put ?_ (by omega) (by omega) _ | refine Kept.skip ?_), by omega, by simp [gset], rfl, by rfl⟩
end Go.Proofs.Ytkcahnefekkfaaa.F13W

namespace Go.Proofs.Ytkcahnefekkfaaa.F13W
open Go Go.Proofs Go.Proofs.YtkcahnefekkfaaaAbs
variable [Base]
set_option maxHeartbeats 8000000
set_option maxRecDepth 100000
/-! ### state.Good -/
theorem goodT_node {t : Tg} (h : goodT (toT t) = true) : nodeIn t := fun h2 => by
  have h2' : (toT t).ty = 2 := h2
  unfold goodT at h
  rw [Bool.and_eq_true] at h
  have h3 := h.2
  rw [if_neg (by rw [h2']; decide), if_pos h2'] at h3
  simp only [inI, Bool.and_eq_true, decide_eq_true_eq] at h3
  change ((1 ≤ t.bits ∧ t.bits ≤ 4) ∧ (0 ≤ t.base ∧ t.base ≤ 96 - 2 ^ t.bits.toNat)) at h3
  have : (0 : Int) ≤ 2 ^ t.bits.toNat := Int.pow_nonneg (by omega)
  omega
theorem things_node {a b c : Int} {ss : List Sl} {ts : List Tg} (h : thingsS a b c ss ts = true) : ∀ t, t ∈ ts → nodeIn t := fun t ht => by
  obtain ⟨i, hi, rfl⟩ := List.getElem_of_mem ht
  have h1 := List.all_eq_true.1 h i (List.mem_range.2 hi)
  rw [tgAt_nat hi] at h1
  simp only [thOk, Bool.and_eq_true] at h1
  exact goodT_node h1.1
theorem ups_in {ss : List Sl} {ts : List Tg} (h1 : ss.all (capOk ts) = true) (h2 : goodF (upsS ss) = true) : ∀ x, x ∈ ss → x.up < ss.length := fun x hx => by
  have h3 := List.all_eq_true.1 h1 x hx
  simp only [capOk, Bool.and_eq_true] at h3
  have hpos : 0 < ss.length := List.length_pos_of_mem hx
  by_cases cn : noneS x = true
  · have h4 := h3.2
    rw [if_pos cn, decide_eq_true_eq] at h4
    omega
  · by_cases c1 : x.up < 0
    · omega
    obtain ⟨_, h5, _⟩ := good_parts h2
    have h6 := List.all_eq_true.1 h5 (upS x) (List.mem_map_of_mem hx)
    rw [upS, if_neg cn] at h6
    simp only [upOk, Bool.or_eq_true, decide_eq_true_eq] at h6
    rcases h6 with (h | h) | h
    · omega
    · omega
    · have := (isF_iff.1 h).2.1
      rw [upsS, List.length_map] at this
      exact this
def goodS (a b c : Int) (ss : List Sl) (ts : List Tg) : Bool := (goodG a b c && (decide ((ss.length : Int) = b) && decide ((ts.length : Int) = c))) && (ss.all (capOk ts) && (thingsS a b c ss ts && (nodesS ss ts && (!ringS ss ts && (goodF (upsS ss) && ss.all (alOk ss))))))
theorem state_Good (a b c : Int) (VS VT : Value) (ss : List Sl) (ts : List Tg) (g : AMem) (n : Nat) (hl : ss.length ≤ 100000) (hl2 : ts.length ≤ 100000) (hs : rdS g VS ss) (ht : rdG g VT ts) : FnC Try.prog f_state_Good [sv a b c VS VT] g n (fun _ => False) (.bool (goodS a b c ss ts)) g n := by
  refine fnC_of_rwp t_state_Good hm rfl fun hdom => ?_
  have k1 : Kept g n (gset g n (some (rowS a b c VS VT))) (n + 1) := (by repeat first | exact Kept.refl hdom | refine Kept.new ?_ _ | refine Kept.drop ?_ (by omega) | refine Kept.put ?_ (by omega) (by omega) _ | refine Kept.skip ?_)
  have hs1 := hs.ext (k1.ext hdom)
  have ht1 := ht.ext (k1.ext hdom)
  obtain ⟨xa, xe, hVS⟩ := hs.form
  obtain ⟨ya, ye, hVT⟩ := ht.form
  unfold goodS
  simp (maxSteps := 1000000) (disch := first | assumption | omega | rfl | decide | simp only [fitsR, Bool.and_self]) [↓rules, rules, ↓rulesDp, rulesDq, lit_u64, Int.ofNat_inj, stops, rc_state_Good, q_int, q_bool, q_geo_Geo, q_S_state_Slot, q_S_thing_Thing, q_state_State, q_cap_Cap, q_state_Slot, q_S_int, q_uint64, q_A4_uint64, q_thing_Thing, q_forest_Forest]
  refine rcall_quiet rfl (GoodG a b c _ _) ?_
  have r0 : gset g n (some (rowS a b c VS VT)) n = some (rowS a b c VS VT) := by rw [gset, if_pos rfl]
  generalize gset g n (some (rowS a b c VS VT)) = G at *
  have r0' := r0
  rw [hVS, hVT] at r0'
  cases c1 : goodG a b c
  · simp (maxSteps := 1000000) (disch := first | assumption | omega | rfl | decide | simp only [fitsR, Bool.and_self]) [↓rules, rules, ↓rulesDp, rulesDq, lit_u64, Int.ofNat_inj, stops, q_int, q_bool, q_geo_Geo, q_S_state_Slot, q_S_thing_Thing, q_state_State, q_cap_Cap, q_state_Slot, q_S_int, q_uint64, q_A4_uint64, q_thing_Thing, q_forest_Forest, r0]
    exact done_q hdom k1 rfl rfl
  have hg := goodG_iff.1 c1
  by_cases c2 : (ss.length : Int) = b
  case neg =>
    rw [decide_eq_false c2]
    simp (maxSteps := 1000000) (disch := first | assumption | omega | rfl | decide | simp only [fitsR, Bool.and_self]) [↓rules, rules, ↓rulesDp, rulesDq, lit_u64, Int.ofNat_inj, stops, q_int, q_bool, q_geo_Geo, q_S_state_Slot, q_S_thing_Thing, q_state_State, q_cap_Cap, q_state_Slot, q_S_int, q_uint64, q_A4_uint64, q_thing_Thing, q_forest_Forest, r0', c2]
    exact done_q hdom k1 rfl rfl
  by_cases c3 : (ts.length : Int) = c
  case neg =>
    rw [decide_eq_false c3, decide_eq_true c2]
    simp (maxSteps := 1000000) (disch := first | assumption | omega | rfl | decide | simp only [fitsR, Bool.and_self]) [↓rules, rules, ↓rulesDp, rulesDq, lit_u64, Int.ofNat_inj, stops, q_int, q_bool, q_geo_Geo, q_S_state_Slot, q_S_thing_Thing, q_state_State, q_cap_Cap, q_state_Slot, q_S_int, q_uint64, q_A4_uint64, q_thing_Thing, q_forest_Forest, r0', c2, c3]
    exact done_q hdom k1 rfl rfl
  rw [decide_eq_true c2, decide_eq_true c3]
  simp only [Bool.and_self, Bool.true_and]
  simp (maxSteps := 1000000) (disch := first | assumption | omega | rfl | decide | simp only [fitsR, Bool.and_self]) [↓rules, rules, ↓rulesDp, rulesDq, lit_u64, Int.ofNat_inj, stops, q_int, q_bool, q_geo_Geo, q_S_state_Slot, q_S_thing_Thing, q_state_State, q_cap_Cap, q_state_Slot, q_S_int, q_uint64, q_A4_uint64, q_thing_Thing, q_forest_Forest, r0', c2, c3]
  rw [← hVS, ← hVT]
  refine rcall_quiet rfl (state_caps a b c VS VT ss ts _ _ hl hs1 ht1) ?_
  cases d1 : ss.all (capOk ts)
  · simp (maxSteps := 1000000) (disch := first | assumption | omega | rfl | decide | simp only [fitsR, Bool.and_self]) [↓rules, rules, ↓rulesDp, rulesDq, lit_u64, Int.ofNat_inj, stops, q_int, q_bool, q_geo_Geo, q_S_state_Slot, q_S_thing_Thing, q_state_State, q_cap_Cap, q_state_Slot, q_S_int, q_uint64, q_A4_uint64, q_thing_Thing, q_forest_Forest]
    exact done_q hdom k1 rfl rfl
  simp (maxSteps := 1000000) (disch := first | assumption | omega | rfl | decide | simp only [fitsR, Bool.and_self]) [↓rules, rules, ↓rulesDp, rulesDq, lit_u64, Int.ofNat_inj, stops, q_int, q_bool, q_geo_Geo, q_S_state_Slot, q_S_thing_Thing, q_state_State, q_cap_Cap, q_state_Slot, q_S_int, q_uint64, q_A4_uint64, q_thing_Thing, q_forest_Forest, r0]
  refine rcall_quiet rfl (state_things a b c VS VT ss ts _ _ (by omega) hl hl2 hs1 ht1) ?_
  cases d2 : thingsS a b c ss ts
  · simp (maxSteps := 1000000) (disch := first | assumption | omega | rfl | decide | simp only [fitsR, Bool.and_self]) [↓rules, rules, ↓rulesDp, rulesDq, lit_u64, Int.ofNat_inj, stops, q_int, q_bool, q_geo_Geo, q_S_state_Slot, q_S_thing_Thing, q_state_State, q_cap_Cap, q_state_Slot, q_S_int, q_uint64, q_A4_uint64, q_thing_Thing, q_forest_Forest]
    exact done_q hdom k1 rfl rfl
  have hb := things_node d2
  simp (maxSteps := 1000000) (disch := first | assumption | omega | rfl | decide | simp only [fitsR, Bool.and_self]) [↓rules, rules, ↓rulesDp, rulesDq, lit_u64, Int.ofNat_inj, stops, q_int, q_bool, q_geo_Geo, q_S_state_Slot, q_S_thing_Thing, q_state_State, q_cap_Cap, q_state_Slot, q_S_int, q_uint64, q_A4_uint64, q_thing_Thing, q_forest_Forest, r0]
  refine rcall_quiet rfl (state_nodes a b c VS VT ss ts _ _ hl hl2 hs1 ht1 hb) ?_
  cases d3 : nodesS ss ts
  · simp (maxSteps := 1000000) (disch := first | assumption | omega | rfl | decide | simp only [fitsR, Bool.and_self]) [↓rules, rules, ↓rulesDp, rulesDq, lit_u64, Int.ofNat_inj, stops, q_int, q_bool, q_geo_Geo, q_S_state_Slot, q_S_thing_Thing, q_state_State, q_cap_Cap, q_state_Slot, q_S_int, q_uint64, q_A4_uint64, q_thing_Thing, q_forest_Forest]
    exact done_q hdom k1 rfl rfl
  simp (maxSteps := 1000000) (disch := first | assumption | omega | rfl | decide | simp only [fitsR, Bool.and_self]) [↓rules, rules, ↓rulesDp, rulesDq, lit_u64, Int.ofNat_inj, stops, q_int, q_bool, q_geo_Geo, q_S_state_Slot, q_S_thing_Thing, q_state_State, q_cap_Cap, q_state_Slot, q_S_int, q_uint64, q_A4_uint64, q_thing_Thing, q_forest_Forest, r0]
  refine rcall_quiet rfl (state_ring a b c VS VT ss ts _ _ hl hl2 hs1 ht1 hb) ?_
  cases d4 : ringS ss ts
  case true =>
    simp (maxSteps := 1000000) (disch := first | assumption | omega | rfl | decide | simp only [fitsR, Bool.and_self]) [↓rules, rules, ↓rulesDp, rulesDq, lit_u64, Int.ofNat_inj, stops, q_int, q_bool, q_geo_Geo, q_S_state_Slot, q_S_thing_Thing, q_state_State, q_cap_Cap, q_state_Slot, q_S_int, q_uint64, q_A4_uint64, q_thing_Thing, q_forest_Forest]
    exact done_q hdom k1 rfl rfl
  simp (maxSteps := 1000000) (disch := first | assumption | omega | rfl | decide | simp only [fitsR, Bool.and_self]) [↓rules, rules, ↓rulesDp, rulesDq, lit_u64, Int.ofNat_inj, stops, q_int, q_bool, q_geo_Geo, q_S_state_Slot, q_S_thing_Thing, q_state_State, q_cap_Cap, q_state_Slot, q_S_int, q_uint64, q_A4_uint64, q_thing_Thing, q_forest_Forest, r0]
  refine rcall_spec (state_Forest a b c VS VT ss _ _ k1.dom hl hs1) rfl (fun _ h => h.elim) rfl fun v g3 n3 ⟨V, hv, p1, p2⟩ => ?_
  subst hv
  have k3 := k1.trans p2
  have s3 : g3 n = some (rowS a b c VS VT) := by rw [p2.same n (by omega)]; exact r0
  simp (maxSteps := 1000000) (disch := first | assumption | omega | rfl | decide | simp only [fitsR, Bool.and_self]) [↓rules, rules, ↓rulesDp, rulesDq, lit_u64, Int.ofNat_inj, stops, q_int, q_bool, q_geo_Geo, q_S_state_Slot, q_S_thing_Thing, q_state_State, q_cap_Cap, q_state_Slot, q_S_int, q_uint64, q_A4_uint64, q_thing_Thing, q_forest_Forest]
  refine rcall_quiet rfl (forest_Good V (upsS ss) _ _ (by simp [upsS]; exact hl) p1.rd) ?_
  cases d5 : goodF (upsS ss)
  · simp (maxSteps := 1000000) (disch := first | assumption | omega | rfl | decide | simp only [fitsR, Bool.and_self]) [↓rules, rules, ↓rulesDp, rulesDq, lit_u64, Int.ofNat_inj, stops, q_int, q_bool, q_geo_Geo, q_S_state_Slot, q_S_thing_Thing, q_state_State, q_cap_Cap, q_state_Slot, q_S_int, q_uint64, q_A4_uint64, q_thing_Thing, q_forest_Forest]
    exact done_q hdom k3 rfl rfl
  simp (maxSteps := 1000000) (disch := first | assumption | omega | rfl | decide | simp only [fitsR, Bool.and_self]) [↓rules, rules, ↓rulesDp, rulesDq, lit_u64, Int.ofNat_inj, stops, q_int, q_bool, q_geo_Geo, q_S_state_Slot, q_S_thing_Thing, q_state_State, q_cap_Cap, q_state_Slot, q_S_int, q_uint64, q_A4_uint64, q_thing_Thing, q_forest_Forest, s3]
  refine rcall_quiet rfl (state_allowed a b c VS VT ss _ _ hl (hs.ext (k3.ext hdom)) (ups_in d1 d5)) ?_
  simp (maxSteps := 1000000) (disch := first | assumption | omega | rfl | decide | simp only [fitsR, Bool.and_self]) [↓rules, rules, ↓rulesDp, rulesDq, lit_u64, Int.ofNat_inj, stops, q_int, q_bool, q_geo_Geo, q_S_state_Slot, q_S_thing_Thing, q_state_State, q_cap_Cap, q_state_Slot, q_S_int, q_uint64, q_A4_uint64, q_thing_Thing, q_forest_Forest]
  exact done_q hdom k3 rfl rfl
end Go.Proofs.Ytkcahnefekkfaaa.F13W

namespace Go.Proofs.Ytkcahnefekkfaaa.F13W
open Go Go.Proofs Go.Proofs.YtkcahnefekkfaaaAbs
variable [Base]
set_option maxHeartbeats 8000000
set_option maxRecDepth 100000
/-! ### Who holds what -/
theorem filter_split {l : List Nat} {p q r : Nat → Bool} (h : ∀ x, x ∈ l → p x = (q x || r x)) (hd : ∀ x, x ∈ l → ¬ (q x = true ∧ r x = true)) : (l.filter p).length = (l.filter q).length + (l.filter r).length := by
  induction l with
  | nil => rfl
  | cons x l ih =>
    have h1 := h x List.mem_cons_self
    have h2 := hd x List.mem_cons_self
    have h3 := ih (fun y hy => h y (List.mem_cons_of_mem _ hy)) (fun y hy => hd y (List.mem_cons_of_mem _ hy))
    simp only [List.filter_cons, h1]
    cases hq : q x <;> cases hr : r x <;> simp_all <;> omega
def notN (ss : List Sl) (k : Nat) : Bool := !noneS (slAt ss k)
/-- How many are not empty, up to there. -/
def nU (ss : List Sl) (k : Nat) : Nat := ((List.range k).filter (notN ss)).length
def mS (ss : List Sl) : Nat → Nat
  | 0 => 0
  | t + 1 => mS ss t + (holdS ss t).length
theorem nU_succ (ss : List Sl) (k : Nat) : nU ss (k + 1) = nU ss k + if notN ss k = true then 1 else 0 := by
  unfold nU
  rw [List.range_succ, List.filter_append, List.length_append]
  cases h : notN ss k <;> simp [h]
theorem nU_le (ss : List Sl) (k : Nat) : nU ss k ≤ k := Nat.le_trans (List.length_filter_le _ _) (by simp)
theorem mS_eq (ss : List Sl) : ∀ T, mS ss T = ((List.range ss.length).filter fun (k : Nat) => notN ss k && decide (0 ≤ (slAt ss k).th ∧ (slAt ss k).th < (T : Int))).length
  | 0 => by
    symm
    rw [mS, List.length_eq_zero_iff, List.filter_eq_nil_iff]
    intro k _
    simp only [Bool.and_eq_true, decide_eq_true_eq, not_and]
    intro _ h; omega
  | T + 1 => by
    rw [mS, mS_eq ss T, holdS, holdU, List.length_map]
    symm
    refine filter_split (fun x _ => ?_) fun x _ h => ?_
    · unfold notN
      cases noneS (slAt ss x)
      · simp only [Bool.not_false, Bool.true_and]
        rw [← Bool.decide_or, decide_eq_decide]
        omega
      · rfl
    · simp only [Bool.and_eq_true, decide_eq_true_eq] at h
      omega
theorem mS_all {ss : List Sl} {ts : List Tg} (h : ss.all (capOk ts) = true) : mS ss ts.length = nU ss ss.length := by
  rw [mS_eq, nU]
  congr 1
  refine List.filter_congr fun k hk => ?_
  have hk := List.mem_range.1 hk
  have h1 := List.all_eq_true.1 h _ (List.getElem_mem hk)
  unfold notN
  rw [slAt_nat hk]
  cases cn : noneS ss[k]
  · simp only [capOk, cn, Bool.and_eq_true] at h1
    have h2 := h1.2
    rw [if_neg (by simp), Bool.and_eq_true, Bool.and_eq_true] at h2
    have h3 := h2.2.1
    simp only [thereS, decide_eq_true_eq] at h3
    simp only [Bool.not_false, Bool.true_and, decide_eq_true_eq]
    omega
  · rfl
theorem hold_mem {ss : List Sl} {t x : Int} (h : x ∈ holdS ss t) : ∃ k : Nat, x = k ∧ k < ss.length ∧ noneS (slAt ss k) = false ∧ (slAt ss k).th = t := by
  obtain ⟨k, hk, rfl⟩ := List.mem_map.1 h
  obtain ⟨h1, h2⟩ := List.mem_filter.1 hk
  simp only [Bool.and_eq_true, decide_eq_true_eq, Bool.not_eq_true'] at h2
  exact ⟨k, rfl, List.mem_range.1 h1, h2.1, h2.2⟩
theorem hold_lt (ss : List Sl) (t : Int) : (holdS ss t).Pairwise (· < ·) := by
  unfold holdS holdU
  rw [List.pairwise_map]
  exact (List.Pairwise.filter _ List.pairwise_lt_range).imp fun h => Int.ofNat_lt.2 h
theorem goodS_parts {a b c : Int} {ss : List Sl} {ts : List Tg} (h : goodS a b c ss ts = true) : goodG a b c = true ∧ (ss.length : Int) = b ∧ (ts.length : Int) = c ∧ ss.all (capOk ts) = true ∧ thingsS a b c ss ts = true ∧ nodesS ss ts = true ∧ ringS ss ts = false ∧ goodF (upsS ss) = true ∧ ss.all (alOk ss) = true := by
  simp only [goodS, Bool.and_eq_true, decide_eq_true_eq, Bool.not_eq_true'] at h
  obtain ⟨⟨h1, h2, h3⟩, h4, h5, h6, h7, h8, h9⟩ := h
  exact ⟨h1, h2, h3, h4, h5, h6, h7, h8, h9⟩
end Go.Proofs.Ytkcahnefekkfaaa.F13W

namespace Go.Proofs.Ytkcahnefekkfaaa.F13W
open Go Go.Proofs Go.Proofs.YtkcahnefekkfaaaAbs
variable [Base]
set_option maxHeartbeats 8000000
set_option maxRecDepth 100000
/-! ### Room for slots -/
theorem ownerS_ge (ts : List Tg) (s : Int) : -1 ≤ ownerS ts s := (idxT_lt _ ts 0 (by omega)).2
/-- How many slots ahead of there, one behind the other, nobody has. -/
def runU (ts : List Tg) : Nat → Nat
  | 0 => 0
  | i + 1 => if ownerS ts i = -1 then runU ts i + 1 else 0
theorem runU_le (ts : List Tg) : ∀ i, runU ts i ≤ i
  | 0 => Nat.le_refl _
  | i + 1 => by
    have := runU_le ts i
    unfold runU
    split <;> omega
def gapI (ts : List Tg) (m M : Nat) : Option Nat := (List.range m).find? fun i => decide (runU ts (i + 1) = M)
theorem gapI_some {ts : List Tg} {m M i : Nat} (hi : i < m) (h : runU ts (i + 1) = M) (hb : ∀ j, j < i → runU ts (j + 1) ≠ M) : gapI ts m M = some i := by
  unfold gapI
  rw [List.find?_range_eq_some]
  exact ⟨by simpa using h, List.mem_range.2 hi, fun j hj => by simpa using hb j hj⟩
theorem gapI_none {ts : List Tg} {m M : Nat} (hb : ∀ j, j < m → runU ts (j + 1) ≠ M) : gapI ts m M = none := by
  unfold gapI
  rw [List.find?_range_eq_none]
  exact fun j hj => by simpa using hb j hj
def gapV (ts : List Tg) (m M : Nat) : Int × Bool := match gapI ts m M with
  | some i => ((i : Int) + 1 - M, true)
  | none => (0, false)
def gapS (a b c : Int) (ss : List Sl) (ts : List Tg) (bits : Int) : Int × Bool := if goodS a b c ss ts = true ∧ 1 ≤ bits ∧ bits ≤ 4 then gapV ts ss.length (2 ^ bits.toNat) else (0, false)
def ownV (a b c : Int) (ss : List Sl) (ts : List Tg) (s : Int) : Int := if goodS a b c ss ts = true ∧ 0 ≤ s ∧ s < ss.length then ownerS ts s else -1
theorem state_Owner (a b c : Int) (VS VT : Value) (ss : List Sl) (ts : List Tg) (s : Int) (g : AMem) (n : Nat) (hl : ss.length ≤ 100000) (hl2 : ts.length ≤ 100000) (hs : rdS g VS ss) (ht : rdG g VT ts) :
    FnC Try.prog f_state_Owner [sv a b c VS VT, .int .i64 s] g n (fun _ => False) (.int .i64 (ownV a b c ss ts s)) g n := by
  refine fnC_of_rwp t_state_Owner hm rfl fun hdom => ?_
  have k1 : Kept g n (gset g n (some (rowS a b c VS VT))) (n + 1) := (by repeat first | exact Kept.refl hdom | refine Kept.new ?_ _ | refine Kept.drop ?_ (by omega) | refine Kept.put ?_ (by omega) (by omega) _ | refine Kept.skip ?_)
  have hs1 := hs.ext (k1.ext hdom)
  have ht1 := ht.ext (k1.ext hdom)
  have r0 : gset g n (some (rowS a b c VS VT)) n = some (rowS a b c VS VT) := by rw [gset, if_pos rfl]
  simp (maxSteps := 1000000) (disch := first | assumption | omega | rfl | decide | simp only [fitsR, Bool.and_self]) [↓rules, rules, ↓rulesDp, rulesDq, lit_u64, Int.ofNat_inj, stops, rc_state_Owner, q_int, q_bool, q_geo_Geo, q_S_state_Slot, q_S_thing_Thing, q_state_State, q_cap_Cap, q_state_Slot, q_uint64, q_A4_uint64, q_thing_Thing]
  generalize gset g n (some (rowS a b c VS VT)) = G at *
  refine rcall_quiet rfl (state_Good a b c VS VT ss ts _ _ hl hl2 hs1 ht1) ?_
  unfold ownV
  cases hgd : goodS a b c ss ts
  · rw [if_neg (by simp)]
    simp (maxSteps := 1000000) (disch := first | assumption | omega | rfl | decide | simp only [fitsR, Bool.and_self]) [↓rules, rules, ↓rulesDp, rulesDq, lit_u64, Int.ofNat_inj, stops, q_int, q_bool, q_geo_Geo, q_S_state_Slot, q_S_thing_Thing, q_state_State, q_cap_Cap, q_state_Slot, q_uint64, q_A4_uint64, q_thing_Thing]
    exact done_q hdom k1 rfl rfl
  obtain ⟨xa, xe, hVS⟩ := hs.form
  have r0' := r0
  rw [hVS] at r0'
  by_cases c1 : s < 0
  · rw [if_neg (by omega)]
    simp (maxSteps := 1000000) (disch := first | assumption | omega | rfl | decide | simp only [fitsR, Bool.and_self]) [↓rules, rules, ↓rulesDp, rulesDq, lit_u64, Int.ofNat_inj, stops, q_int, q_bool, q_geo_Geo, q_S_state_Slot, q_S_thing_Thing, q_state_State, q_cap_Cap, q_state_Slot, q_uint64, q_A4_uint64, q_thing_Thing, c1]
    exact done_q hdom k1 rfl rfl
  by_cases c2 : (ss.length : Int) ≤ s
  · rw [if_neg (by omega)]
    simp (maxSteps := 1000000) (disch := first | assumption | omega | rfl | decide | simp only [fitsR, Bool.and_self]) [↓rules, rules, ↓rulesDp, rulesDq, lit_u64, Int.ofNat_inj, stops, q_int, q_bool, q_geo_Geo, q_S_state_Slot, q_S_thing_Thing, q_state_State, q_cap_Cap, q_state_Slot, q_uint64, q_A4_uint64, q_thing_Thing, c1, c2, r0']
    exact done_q hdom k1 rfl rfl
  rw [if_pos ⟨rfl, by omega, by omega⟩]
  obtain ⟨_, _, _, _, hth, _⟩ := goodS_parts hgd
  have hb := things_node hth
  simp (maxSteps := 1000000) (disch := first | assumption | omega | rfl | decide | simp only [fitsR, Bool.and_self]) [↓rules, rules, ↓rulesDp, rulesDq, lit_u64, Int.ofNat_inj, stops, q_int, q_bool, q_geo_Geo, q_S_state_Slot, q_S_thing_Thing, q_state_State, q_cap_Cap, q_state_Slot, q_uint64, q_A4_uint64, q_thing_Thing, c1, c2, r0']
  rw [← hVS]
  refine rcall_quiet rfl (state_owner a b c VS VT ts s _ _ hl2 ht1 hb) ?_
  simp (maxSteps := 1000000) (disch := first | assumption | omega | rfl | decide | simp only [fitsR, Bool.and_self]) [↓rules, rules, ↓rulesDp, rulesDq, lit_u64, Int.ofNat_inj, stops, q_int, q_bool, q_geo_Geo, q_S_state_Slot, q_S_thing_Thing, q_state_State, q_cap_Cap, q_state_Slot, q_uint64, q_A4_uint64, q_thing_Thing]
  exact done_q hdom k1 rfl rfl
end Go.Proofs.Ytkcahnefekkfaaa.F13W

namespace Go.Proofs.Ytkcahnefekkfaaa.F13W
open Go Go.Proofs Go.Proofs.YtkcahnefekkfaaaAbs
variable [Base]
set_option maxHeartbeats 4000000
set_option maxRecDepth 100000
/-! ### What may be -/
def oddS (x : Int) : Bool := decide (x < 0 ∨ 15 < x)
theorem path_odd (x : Int) (g : AMem) (n : Nat) : FnC Try.prog f_path_Good_1 [.int .i64 x] g n (fun _ => False) (.bool (oddS x)) g n := by
  refine fnC_of_rwp t_path_Good_1 hm rfl fun hdom => ?_
  unfold oddS
  by_cases c : x < 0
  · simp (maxSteps := 1000000) (disch := first | assumption | omega | rfl | decide | simp only [fitsR, Bool.and_self]) [↓rules, rules, ↓rulesDp, rulesDq, lit_u64, Int.ofNat_inj, stops, rc_path_Good_1, q_int, q_bool, c]
    refine done_q hdom (by repeat first | exact Kept.refl hdom | refine Kept.new ?_ _ | refine Kept.drop ?_ (by omega) | refine Kept.put ?_ (by omega) (by omega) _ | refine Kept.skip ?_) rfl ?_
    first | rfl | (simp [c]; rfl)
  · simp (maxSteps := 1000000) (disch := first | assumption | omega | rfl | decide | simp only [fitsR, Bool.and_self]) [↓rules, rules, ↓rulesDp, rulesDq, lit_u64, Int.ofNat_inj, stops, rc_path_Good_1, q_int, q_bool, c]
    refine done_q hdom (by repeat first | exact Kept.refl hdom | refine Kept.new ?_ _ | refine Kept.drop ?_ (by omega) | refine Kept.put ?_ (by omega) (by omega) _ | refine Kept.skip ?_) rfl ?_
    first | rfl | (simp [c]; rfl)
def idxL (p : Int → Bool) : List Int → Int → Int
  | [], _ => -1
  | x :: r, i => if p x = true then i else idxL p r (i + 1)
theorem idxL_any (p : Int → Bool) : ∀ (xs : List Int) (i : Int), 0 ≤ i → decide (0 ≤ idxL p xs i) = xs.any p
  | [], i, h => rfl
  | x :: r, i, h => by
    unfold idxL
    cases c : p x
    · simp [c, idxL_any p r (i + 1) (by omega)]
    · simp [c, h]
theorem slices_IndexFuncI (va : Value) (xs : List Int) (p : Int → Bool) (k : FuncId) (hk : goFn Try.prog k = true) (hp : ∀ x g n, FnC Try.prog k [.int .i64 x] g n (fun _ => False) (.bool (p x)) g n) (g : AMem) (n : Nat) (hl : xs.length < 4611686018427387904) (ha : rdI g va xs) :
    FnC Try.prog f_slices_IndexFunc_S_int_int [va, .func (.func k) #[] #[]] g n (fun _ => False) (.int .i64 (idxL p xs 0)) g n := by
  refine fnC_of_rwp t_slices_IndexFunc_S_int_int hm rfl fun hdom => ?_
  obtain ⟨a, ea, hva⟩ := ha.form
  simp (maxSteps := 1000000) (disch := first | assumption | omega | rfl | decide | simp only [fitsR, Bool.and_self]) [↓rules, rules, ↓rulesDp, rulesDq, lit_u64, Int.ofNat_inj, stops, rc_slices_IndexFunc_S_int_int, q_int, q_bool, q_S_int, hva]
  rw [← hva]
  refine rwp_loop (fun j l g' n' => ∃ i, j = xs.length - i ∧ i ≤ xs.length ∧ g' = g ∧ n' = n ∧ idxL p xs 0 = idxL p (xs.drop i) i ∧ l = [(0, va), (1, .func (.func k) #[] #[]), (7, .int .i64 xs.length), (8, .int .i64 i)]) ?_ (k := xs.length) ?_
  · rintro j l g' n' ⟨i, rfl, hi, rfl, rfl, he, rfl⟩
    by_cases hlt : (i : Int) < (xs.length : Int)
    · have hlt1 : i < xs.length := by omega
      obtain ⟨b1, o1, h1, _, h2⟩ := ha.one hlt1
      have e1 := h2 g' (Ext.refl _) Try.prog _ ta_int
      rw [List.drop_eq_getElem_cons hlt1, idxL] at he
      simp (maxSteps := 1000000) (disch := first | assumption | omega | rfl | decide | simp only [fitsR, Bool.and_self]) [↓rules, rules, ↓rulesDp, rulesDq, lit_u64, Int.ofNat_inj, stops, rc_slices_IndexFunc_S_int_intl0, q_int, q_bool, q_S_int, hlt, hlt1, h1, e1]
      refine rcall_quiet hk (hp _ _ _) ?_
      have w1 : IntKind.i64.wrap ((i : Int) + 1) = ((i + 1 : Nat) : Int) := by rw [wrap_i64 (by omega) (by omega)]; omega
      cases c : p xs[i]
      · rw [c, if_neg (by simp)] at he
        simp (maxSteps := 1000000) (disch := first | assumption | omega | rfl | decide | simp only [fitsR, Bool.and_self]) [↓rules, rules, ↓rulesDp, rulesDq, lit_u64, Int.ofNat_inj, stops, q_int, q_bool, q_S_int, w1]
        exact ⟨xs.length - (i + 1), by omega, i + 1, rfl, by omega, he, by omega⟩
      · rw [c, if_pos rfl] at he
        simp (maxSteps := 1000000) (disch := first | assumption | omega | rfl | decide | simp only [fitsR, Bool.and_self]) [↓rules, rules, ↓rulesDp, rulesDq, lit_u64, Int.ofNat_inj, stops, q_int, q_bool, q_S_int]
        refine done_q hdom (by repeat first | exact Kept.refl hdom | refine Kept.new ?_ _ | refine Kept.drop ?_ (by omega) | refine Kept.put ?_ (by omega) (by omega) _ | refine Kept.skip ?_) rfl ?_
        rw [he]; rfl
    · have : i = xs.length := by omega
      subst this
      rw [List.drop_length] at he
      simp (maxSteps := 1000000) (disch := first | assumption | omega | rfl | decide | simp only [fitsR, Bool.and_self]) [↓rules, rules, ↓rulesDp, rulesDq, lit_u64, Int.ofNat_inj, stops, rc_slices_IndexFunc_S_int_intl0, q_int, q_bool, q_S_int, hlt]
      refine done_q hdom (by repeat first | exact Kept.refl hdom | refine Kept.new ?_ _ | refine Kept.drop ?_ (by omega) | refine Kept.put ?_ (by omega) (by omega) _ | refine Kept.skip ?_) rfl ?_
      rw [he]; rfl
  · exact ⟨0, by simp, by simp, rfl, rfl, by simp, by rfl⟩
theorem slices_ContainsFuncI (va : Value) (xs : List Int) (p : Int → Bool) (k : FuncId) (hk : goFn Try.prog k = true) (hp : ∀ x g n, FnC Try.prog k [.int .i64 x] g n (fun _ => False) (.bool (p x)) g n) (g : AMem) (n : Nat) (hl : xs.length < 4611686018427387904) (ha : rdI g va xs) :
    FnC Try.prog f_slices_ContainsFunc_S_int_int [va, .func (.func k) #[] #[]] g n (fun _ => False) (.bool (xs.any p)) g n := by
  refine fnC_of_rwp t_slices_ContainsFunc_S_int_int hm rfl fun hdom => ?_
  simp (maxSteps := 1000000) (disch := first | assumption | omega | rfl | decide | simp only [fitsR, Bool.and_self]) [↓rules, rules, ↓rulesDp, rulesDq, lit_u64, Int.ofNat_inj, stops, rc_slices_ContainsFunc_S_int_int, q_int, q_bool, q_S_int]
  refine rcall_quiet rfl (slices_IndexFuncI va xs p k hk hp _ _ hl ha) ?_
  have e := idxL_any p xs 0 (by omega)
  generalize idxL p xs 0 = z at *
  simp (maxSteps := 1000000) (disch := first | assumption | omega | rfl | decide | simp only [fitsR, Bool.and_self]) [↓rules, rules, ↓rulesDp, rulesDq, lit_u64, Int.ofNat_inj, stops, q_int, q_bool, q_S_int]
  refine done_q hdom (by repeat first | exact Kept.refl hdom | refine Kept.new ?_ _ | refine Kept.drop ?_ (by omega) | refine Kept.put ?_ (by omega) (by omega) _ | refine Kept.skip ?_) rfl ?_
  rw [← e]; rfl
def goodP (xs : List Int) : Bool := decide (1 ≤ xs.length ∧ xs.length ≤ 3) && !xs.any oddS
abbrev pv (va : Value) : Value := .agg #[va]
theorem path_Good (va : Value) (xs : List Int) (g : AMem) (n : Nat) (hl : xs.length < 4611686018427387904) (ha : rdI g va xs) : FnC Try.prog f_path_Good [pv va] g n (fun _ => False) (.bool (goodP xs)) g n := by
  refine fnC_of_rwp t_path_Good hm rfl fun hdom => ?_
  obtain ⟨a, ea, hva⟩ := ha.form
  have k1 := (Kept.refl hdom).new (.row [va] true)
  unfold goodP
  by_cases c1 : (1 : Int) ≤ xs.length
  case neg =>
    rw [decide_eq_false (show ¬ (1 ≤ xs.length ∧ xs.length ≤ 3) by omega), Bool.false_and]
    simp (maxSteps := 1000000) (disch := first | assumption | omega | rfl | decide | simp only [fitsR, Bool.and_self]) [↓rules, rules, ↓rulesDp, rulesDq, lit_u64, Int.ofNat_inj, stops, rc_path_Good, q_int, q_bool, q_S_int, q_path_Path, hva, c1]
    exact done_q hdom (hva ▸ k1) rfl rfl
  by_cases c2 : (xs.length : Int) ≤ 3
  case neg =>
    rw [decide_eq_false (show ¬ (1 ≤ xs.length ∧ xs.length ≤ 3) by omega), Bool.false_and]
    simp (maxSteps := 1000000) (disch := first | assumption | omega | rfl | decide | simp only [fitsR, Bool.and_self]) [↓rules, rules, ↓rulesDp, rulesDq, lit_u64, Int.ofNat_inj, stops, rc_path_Good, q_int, q_bool, q_S_int, q_path_Path, hva, c1, c2]
    exact done_q hdom (hva ▸ k1) rfl rfl
  rw [decide_eq_true (show (1 ≤ xs.length ∧ xs.length ≤ 3) by omega), Bool.true_and]
  simp (maxSteps := 1000000) (disch := first | assumption | omega | rfl | decide | simp only [fitsR, Bool.and_self]) [↓rules, rules, ↓rulesDp, rulesDq, lit_u64, Int.ofNat_inj, stops, rc_path_Good, q_int, q_bool, q_S_int, q_path_Path, hva, c1, c2]
  rw [← hva]
  refine rcall_quiet rfl (slices_ContainsFuncI va xs oddS _ (by kernel_rfl) path_odd _ _ hl (ha.ext (k1.ext hdom))) ?_
  simp (maxSteps := 1000000) (disch := first | assumption | omega | rfl | decide | simp only [fitsR, Bool.and_self]) [↓rules, rules, ↓rulesDp, rulesDq, lit_u64, Int.ofNat_inj, stops, q_int, q_bool, q_S_int, q_path_Path]
  exact done_q hdom k1 rfl rfl
end Go.Proofs.Ytkcahnefekkfaaa.F13W
